/-
  The reference's FindIn returns, for each signer from 0 to 9, the first neighbours of the list that are its votes in conflict. Condition: the list lies in memory below the call and has at most a million elements.
  The reference's Verified returns the canonical list of the votes that verify, and its Find the evidence in it. Condition: keys and list lie in memory below the call, the list has at most a million elements.
  Plain mathematics of finding evidence in a canonical list: the first vote of each key and the votes behind it give the first neighbours in conflict. No condition.
  The keys of the program's two maps, numbers of trees and what votes in conflict have in common, are told apart by '=='. No condition.
  Plain mathematics of what is found, without where it lies: who is guilty of a list of signed votes. No condition.
-/
import Derived.Test.YthmecidpjlaonaaGreatGCan
import Derived.Test.YthmecidpjlaonaaGreatGOrd
import Derived.Test.YthmecidpjlaonaaGreatGMap
import Derived.Test.YthmecidpjlaonaaGreatGRVfy
namespace Go.Proofs.YthmecidpjlaonaaGreat
open Go.RowKit
attribute [local go_sem ↓] Go.wp_at_zero Go.wp_at_succ loadNm loadVt loadSg loadEv
attribute [local go_sem] runNm runVt runSg runEv pickRow_some rowAt_drew rowAt_drewN

/-- The first neighbours that are votes of signer s in conflict. -/
def firstC (s : Nat) : List Sg → Option Ev
  | x :: y :: r => if x.vote.signer = (s : Int) ∧ ConfP x.vote y.vote then some ⟨x, y⟩ else firstC s (y :: r)
  | _ => none
def findF (l : List Sg) (k : Nat) : List Ev := (List.range k).filterMap fun s => firstC s l
theorem findF_succ (l : List Sg) (k : Nat) : findF l (k + 1) = findF l k ++ (firstC k l).toList := by
  unfold findF
  rw [List.range_succ, List.filterMap_append]
  congr 1
theorem findF_len (l : List Sg) (k : Nat) : (findF l k).length ≤ k := by
  have := List.length_filterMap_le (fun s => firstC s l) (List.range k)
  rw [List.length_range] at this
  exact this
theorem firstC_step {s i : Nat} {l : List Sg} {x y : Sg} (hx : l[i]? = some x) (hy : l[i + 1]? = some y) : firstC s (l.drop i) = if x.vote.signer = (s : Int) ∧ ConfP x.vote y.vote then some ⟨x, y⟩ else firstC s (l.drop (i + 1)) := by
  obtain ⟨hi, rfl⟩ := List.getElem?_eq_some_iff.1 hx
  obtain ⟨hj, rfl⟩ := List.getElem?_eq_some_iff.1 hy
  rw [List.drop_eq_getElem_cons hi, List.drop_eq_getElem_cons hj, firstC]
theorem firstC_short {s i : Nat} {l : List Sg} (h : l.length ≤ i + 1) : firstC s (l.drop i) = none := by
  rcases hd : l.drop i with _ | ⟨x, _ | ⟨y, r⟩⟩
  · rfl
  · rfl
  · have := congrArg List.length hd
    rw [List.length_drop] at this
    simp at this
    omega
theorem firstC_mem {s : Nat} {e : Ev} : ∀ {l : List Sg}, firstC s l = some e → e.a ∈ l ∧ e.b ∈ l
  | [], h => by cases h
  | [_], h => by cases h
  | x :: y :: r, h => by
    rw [firstC] at h
    split at h
    · cases h; simp
    · obtain ⟨h1, h2⟩ := firstC_mem h
      exact ⟨List.mem_cons_of_mem _ h1, List.mem_cons_of_mem _ h2⟩
theorem findF_mem {l : List Sg} {k : Nat} {e : Ev} (h : e ∈ findF l k) : e.a ∈ l ∧ e.b ∈ l := by
  obtain ⟨s, _, hs⟩ := List.mem_filterMap.1 h
  exact firstC_mem hs
set_option maxRecDepth 100000 in
theorem run_buildEv {o : Oper} {a : Act} (x y : Sg) (s t : Operand) (ho : o.op = .build 51 #[(0, s), (1, t)]) (hs : a.eval s = x.val) (ht : a.eval t = y.val) (w : World) :
    (execOp a.eval o).run Tryz.prog w = .ok (.value (Ev.mk x y).val) w := by
  obtain ⟨v, sig, A, c⟩ := x
  obtain ⟨v', sig', A', c'⟩ := y
  unfold Ev.val
  rw [ev_lit]
  unfold Sg.val at hs ht
  rw [sg_lit] at hs ht
  unfold execOp
  rw [ho]
  simp only [List.map_toArray, List.map_cons, List.map_nil, hs, ht]
  go_simp
theorem info_ev : (Tryz.prog.info? 51).map (fun i => (i.zero, i.size, i.bytes)) = some (some (.agg zeroEc), 46, 176) := by kernel_rfl
/-- Where FindIn stands at the head of its outer loop. -/
def FindRel (l : List Sg) (w : World) (v sv : Value) (wr : World) : Prop :=
  ∃ s : Nat, s ≤ 10 ∧ sv = .int .i64 (s : Int) ∧ wr.ownsRow w.heap.size 51 46 v (findF l s).length ((findF l s).flatMap evc) ∧ Below w.heap.size w wr
/-- .. of its inner loop. -/
def FindRel2 (l : List Sg) (s : Nat) (w : World) (v fv iv : Value) (wr : World) : Prop :=
  ∃ (i : Nat) (fb : Bool) (E : List Ev), i ≤ l.length ∧ iv = .int .i64 (i : Int) ∧ fv = .bool fb ∧ wr.ownsRow w.heap.size 51 46 v E.length (E.flatMap evc) ∧ Below w.heap.size w wr
    ∧ (fb = false → E = findF l s ∧ firstC s l = firstC s (l.drop i)) ∧ (fb = true → E = findF l (s + 1))
/-- What FindIn returns. -/
def FindPost (w : World) (l : List Sg) (e : Ending) (w' : World) : Prop :=
  ∃ v : Value, e = .returned v ∧ Below w.heap.size w w' ∧ w'.ownsRow w.heap.size 51 46 v (findF l 10).length ((findF l 10).flatMap evc)

set_option maxRecDepth 100000 in
set_option maxHeartbeats 4000000 in
theorem rfindin_any (A : Option Addr) (n c : Nat) (l : List Sg) (w : World) (hn : l.length = n) (hr : Rd w w.heap.size A (l.flatMap sgc)) (hok : SgsOk w w.heap.size l) (hsmall : n ≤ 1000000) :
    Calls Tryz.prog 14 #[.slice A n c] w (FindPost w l) := by
  have HN := Lib.hid hn; clear hn
  have HR := Lib.hid hr; clear hr
  have HOk := Lib.hid hok; clear hok
  go_enter Tryz.func14, Tryz.ntmps14
  go_wp2
  go_loopw [3, 4] (fun v sv wr => FindRel l w v sv wr) (fun _ sv _ => 10 - (intOf sv).toNat)
  case atStart => exact ⟨0, by omega, rfl, ⟨by simp [findF], .inl ⟨by simp, rfl⟩⟩, Below.refl _ _⟩
  case round =>
    obtain ⟨s, hs, rfl, hown, hbw⟩ := hrel
    by_cases hs10 : s < 10
    · have HOwn := Lib.hid hown
      clear hown
      have ds : decide ((s : Int) < 10) = true := by simp; omega
      go_wp2
      go_loopw [3, 5, 6] (fun v fv iv wr => FindRel2 l s w v fv iv wr) (fun _ _ iv _ => n - (intOf iv).toNat)
      case atStart => exact ⟨0, false, findF l s, by omega, rfl, rfl, HOwn.out, hbw, fun _ => ⟨rfl, by rw [List.drop_zero]⟩, fun h => (by cases h)⟩
      case round =>
        clear hbw HOwn
        obtain ⟨i, fb, E, hin, rfl, rfl, hown, hbw, h1, h2⟩ := hrel
        rw [HN.out] at hin
        have HOwn := Lib.hid hown
        have H1 := Lib.hid h1
        have H2 := Lib.hid h2
        clear hown h1 h2
        cases fb with
        | true =>
          by_cases hi : i + 1 < n
          · have di : decide ((i : Int) + 1 < (n : Int)) = true := by simp; omega
            go_wp2
            go_roundw
            case rel => exact ⟨s + 1, by omega, by go_num, by rw [← H2.out rfl]; exact HOwn.out, hbw⟩
            case measure => simp [intOf]; omega
          · have di : decide ((i : Int) + 1 < (n : Int)) = false := by simp; omega
            go_wp2
            go_roundw
            case rel => exact ⟨s + 1, by omega, by go_num, by rw [← H2.out rfl]; exact HOwn.out, hbw⟩
            case measure => simp [intOf]; omega
        | false =>
          by_cases hi : i + 1 < n
          · have di : decide ((i : Int) + 1 < (n : Int)) = true := by simp; omega
            have ii : i < n := by omega
            have ij : (0 : Int) ≤ (i : Int) + 1 := by omega
            have ik : (i : Int) + 1 < (n : Int) := by omega
            have hw : IntKind.i64.wrap ((i : Int) + 1) = ((i + 1 : Nat) : Int) := IntWalk.i64_in _ (by omega)
            obtain ⟨x, hx⟩ : ∃ x, l[i]? = some x := ⟨_, List.getElem?_eq_getElem (by rw [HN.out]; omega)⟩
            obtain ⟨y, hy⟩ : ∃ y, l[i + 1]? = some y := ⟨_, List.getElem?_eq_getElem (by rw [HN.out]; omega)⟩
            obtain ⟨b, o, rfl, hb, hcell⟩ := HR.out.cells (by intro e; have := flat_length sgc 23 l (sgc_len l); rw [e, HN.out] at this; simp at this; omega)
            clear hcell
            have HRows : Hid (∀ W, Below w.heap.size w W → rowAt W b (o + i * 23) 22 = some x.vote.cells ∧ rowAt W b (o + (i + 1) * 23) 22 = some y.vote.cells ∧ W.cell? ⟨b, o + i * 23 + 4, none⟩ = some (I x.vote.signer)) :=
              fun W hW => ⟨(HR.out.below hW).sgVote hx, (HR.out.below hW).sgVote hy, (rowAt_back ((HR.out.below hW).sgVote hx)).2 4 _ rfl⟩
            have HSgs : Hid (∀ W, Below w.heap.size w W → rowAt W b (o + i * 23) 23 = some x.cells ∧ rowAt W b (o + (i + 1) * 23) 23 = some y.cells) := fun W hW => ⟨(HR.out.below hW).sgRow hx, (HR.out.below hW).sgRow hy⟩
            have HStep := Lib.hid (firstC_step (s := s) hx hy)
            have HCf : Hid (∀ W, Calls Tryz.prog 48 #[x.vote.val, y.vote.val] W (BoolPost W (decide (ConfP x.vote y.vote)))) := fun W => rconf_any x.vote y.vote W (HOk.out x (List.mem_of_getElem? hx)).1.1 (HOk.out y (List.mem_of_getElem? hy)).1.1
            clear hx hy
            obtain ⟨cf, hcf⟩ : ∃ cf, cf = decide (ConfP x.vote y.vote) := ⟨_, rfl⟩
            rw [← hcf] at HCf
            have HC := Lib.hid hcf
            clear hcf
            by_cases hsg : x.vote.signer = (s : Int)
            · have hsg' : (x.vote.signer == (s : Int)) = true := by rw [hsg]; simp
              have hE : Hid (E = findF l s ∧ firstC s l = firstC s (l.drop i)) := H1.out rfl
              have hEl : E.length ≤ 10 := by rw [hE.out.1]; exact Nat.le_trans (findF_len l s) (by omega)
              clear H1 H2
              go_upto_region 9 with fail
              refine wp_region_noPanic ?_
              refine wp_region_held_drew (S := fun w' => rowAt w' b (o + i * 23) 22 = some x.vote.cells ∧ rowAt w' b (o + (i + 1) * 23) 22 = some y.vote.cells ∧ w'.cell? ⟨b, o + i * 23 + 4, none⟩ = some (I x.vote.signer)) (by kernel_rfl) (HRows.out _ hbw.drew) (fun hHeld => ?_)
              refine wpAnyH_takeD (some 22) (i := 0) (v := ?vh1_0) rfl rfl (by kernel_rfl) (by kernel_rfl) (by kernel_rfl) (fun _ _ _ h => h) (by rfl) ?hh1_0 (by assumption) ?_
              case hh1_0 => (intro wq hSw; (try dsimp only at hSw); go_simp; (try (with_reducible rfl)))
              go_frame
              refine wpAnyH_takeD (some 23) (i := 1) (v := ?vh1_1) rfl rfl (by kernel_rfl) (by kernel_rfl) (by kernel_rfl) (fun _ _ _ h => h) (by rfl) ?hh1_1 (by assumption) ?_
              case hh1_1 => (intro wq hSw; (try dsimp only at hSw); go_simp; (try (with_reducible rfl)))
              go_frame
              refine wpAnyH_takeD (some 24) (i := 2) (v := ?vh1_2) rfl rfl (by kernel_rfl) (by kernel_rfl) (by kernel_rfl) (fun _ _ _ h => h) (by rfl) ?hh1_2 (by assumption) ?_
              case hh1_2 => (intro wq hSw; (try dsimp only at hSw); go_simp; (try (with_reducible rfl)))
              go_frame
              refine wpAnyH_takeD (some 25) (i := 3) (v := ?vh1_3) rfl rfl (by kernel_rfl) (by kernel_rfl) (by kernel_rfl) (fun _ _ _ h => h) (by rfl) ?hh1_3 (by assumption) ?_
              case hh1_3 => (intro wq hSw; (try dsimp only at hSw); go_simp; (try (with_reducible rfl)))
              go_frame
              refine wpAnyH_takeD (some 26) (i := 4) (v := ?vh1_4) rfl rfl (by kernel_rfl) (by kernel_rfl) (by kernel_rfl) (fun _ _ _ h => h) (by rfl) ?hh1_4 (by assumption) ?_
              case hh1_4 => (intro wq hSw; (try dsimp only at hSw); go_simp; (try (with_reducible rfl)))
              go_frame
              refine wpAnyH_takeD (some 27) (i := 5) (v := ?vh1_5) rfl rfl (by kernel_rfl) (by kernel_rfl) (by kernel_rfl) (fun _ _ _ h => h) (by rfl) ?hh1_5 (by assumption) ?_
              case hh1_5 => (intro wq hSw; (try dsimp only at hSw); go_simp; (try (with_reducible rfl)))
              go_frame
              refine wpAnyH_takeD (some 28) (i := 6) (v := ?vh1_6) rfl rfl (by kernel_rfl) (by kernel_rfl) (by kernel_rfl) (fun _ _ _ h => h) (by rfl) ?hh1_6 (by assumption) ?_
              case hh1_6 => (intro wq hSw; (try dsimp only at hSw); go_simp; (try (with_reducible rfl)))
              go_frame
              refine wpAnyH_takeD (some 29) (i := 7) (v := ?vh1_7) rfl rfl (by kernel_rfl) (by kernel_rfl) (by kernel_rfl) (fun _ _ _ h => h) (by rfl) ?hh1_7 (by assumption) ?_
              case hh1_7 => (intro wq hSw; (try dsimp only at hSw); go_simp; (try (with_reducible rfl)))
              go_frame
              refine wpAnyH_takeD (some 30) (i := 8) (v := ?vh1_8) rfl rfl (by kernel_rfl) (by kernel_rfl) (by kernel_rfl) (fun _ _ _ h => h) (by rfl) ?hh1_8 (by assumption) ?_
              case hh1_8 => (intro wq hSw; (try dsimp only at hSw); go_simp; (try (with_reducible rfl)))
              go_frame
              refine wpAnyH_takeD (some 31) (i := 9) (v := ?vh1_9) rfl rfl (by kernel_rfl) (by kernel_rfl) (by kernel_rfl) (fun _ _ _ h => h) (by rfl) ?hh1_9 (by assumption) ?_
              case hh1_9 => (intro wq hSw; (try dsimp only at hSw); go_simp; (try (with_reducible rfl)))
              go_frame
              refine wpAnyH_takeD (some 32) (i := 10) (v := ?vh1_10) rfl rfl (by kernel_rfl) (by kernel_rfl) (by kernel_rfl) (fun _ _ _ h => h) (by rfl) ?hh1_10 (by assumption) ?_
              case hh1_10 => (intro wq hSw; (try dsimp only at hSw); go_simp; (try (with_reducible rfl)))
              go_frame
              refine wpAnyH_takeD (some 33) (i := 11) (v := ?vh1_11) rfl rfl (by kernel_rfl) (by kernel_rfl) (by kernel_rfl) (fun _ _ _ h => h) (by rfl) ?hh1_11 (by assumption) ?_
              case hh1_11 => (intro wq hSw; (try dsimp only at hSw); go_simp; (try (with_reducible rfl)))
              go_frame
              refine wpAnyH_takeD (some 34) (i := 12) (v := ?vh1_12) rfl rfl (by kernel_rfl) (by kernel_rfl) (by kernel_rfl) (fun _ _ _ h => h) (by rfl) ?hh1_12 (by assumption) ?_
              case hh1_12 => (intro wq hSw; (try dsimp only at hSw); go_simp; (try (with_reducible rfl)))
              go_frame
              refine wpAnyH_takeD (some 35) (i := 13) (v := ?vh1_13) rfl rfl (by kernel_rfl) (by kernel_rfl) (by kernel_rfl) (fun _ _ _ h => h) (by rfl) ?hh1_13 (by assumption) ?_
              case hh1_13 => (intro wq hSw; (try dsimp only at hSw); go_simp; (try (with_reducible rfl)))
              go_frame
              refine wpAnyH_takeD (some 36) (i := 14) (v := ?vh1_14) rfl rfl (by kernel_rfl) (by kernel_rfl) (by kernel_rfl) (fun _ _ _ h => h) (by rfl) ?hh1_14 (by assumption) ?_
              case hh1_14 => (intro wq hSw; (try dsimp only at hSw); go_simp; (try (with_reducible rfl)))
              go_frame
              refine wpAnyH_takeD (some 37) (i := 15) (v := ?vh1_15) rfl rfl (by kernel_rfl) (by kernel_rfl) (by kernel_rfl) (fun _ _ _ h => h) (by rfl) ?hh1_15 (by assumption) ?_
              case hh1_15 => (intro wq hSw; (try dsimp only at hSw); go_simp; (try (with_reducible rfl)))
              go_frame
              refine wpAnyH_takeD (some 38) (i := 16) (v := ?vh1_16) rfl rfl (by kernel_rfl) (by kernel_rfl) (by kernel_rfl) (fun _ _ _ h => h) (by rfl) ?hh1_16 (by assumption) ?_
              case hh1_16 => (intro wq hSw; (try dsimp only at hSw); go_simp; (try (with_reducible rfl)))
              go_frame
              refine wpAnyH_takeD (some 39) (i := 17) (v := ?vh1_17) rfl rfl (by kernel_rfl) (by kernel_rfl) (by kernel_rfl) (fun _ _ _ h => h) (by rfl) ?hh1_17 (by assumption) ?_
              case hh1_17 => (intro wq hSw; (try dsimp only at hSw); go_simp; (try (with_reducible rfl)))
              go_frame
              refine wpAnyH_takeD (some 40) (i := 18) (v := ?vh1_18) rfl rfl (by kernel_rfl) (by kernel_rfl) (by kernel_rfl) (fun _ _ _ h => h) (by rfl) ?hh1_18 (by assumption) ?_
              case hh1_18 => (intro wq hSw; (try dsimp only at hSw); go_simp; (try (with_reducible rfl)))
              go_frame
              refine wpAnyH_takeD (some 41) (i := 19) (v := ?vh1_19) rfl rfl (by kernel_rfl) (by kernel_rfl) (by kernel_rfl) (fun _ _ _ h => h) (by rfl) ?hh1_19 (by assumption) ?_
              case hh1_19 => (intro wq hSw; (try dsimp only at hSw); go_simp; (try (with_reducible rfl)))
              go_frame
              refine wpAnyH_ready (rs := [20]) (by kernel_rfl) (by simp) ?_
              refine AllReadyH.cons rfl (fun K hK => ?_) AllReadyH.nil
              go_simp
              refine (HCf.out _).mono ?_; rintro en w2 ⟨rfl, hb2⟩; have hbw2 := hbw.drew.trans (hb2.mono hbw.size); have HOwn2 := Lib.hid (own_below (own_drew HOwn.out) hb2 (Nat.le_refl _))
              go_wp2_with fail
              refine hK.out _ _ (HRows.out _ hbw2) (fun hHeld => ?_)
              clear hK K
              try go_frame
              refine wpAnyH_takeD (some 43) (i := 21) (v := ?vh1_21) rfl rfl (by kernel_rfl) (by kernel_rfl) (by kernel_rfl) (fun _ _ _ h => h) (by rfl) ?hh1_21 (by assumption) ?_
              case hh1_21 => (intro wq hSw; (try dsimp only at hSw); go_simp; (try (with_reducible rfl)))
              go_frame
              refine wpAnyH_done (by kernel_rfl) ?_ _
              refine NoPanic.normal ?_
              cases cf with
              | true =>
                go_upto_region 10 with fail
                refine wp_region_noPanic ?_
                refine wp_region_held_drew (S := fun w' => rowAt w' b (o + i * 23) 23 = some x.cells ∧ rowAt w' b (o + (i + 1) * 23) 23 = some y.cells) (by kernel_rfl) (HSgs.out _ hbw2.drew) (fun hHeld => ?_)
                refine wpAnyH_takeD (some 44) (i := 0) (v := ?vh2_0) rfl rfl (by kernel_rfl) (by kernel_rfl) (by kernel_rfl) (fun _ _ _ h => h) (by rfl) ?hh2_0 (by assumption) ?_
                case hh2_0 => (intro wq hSw; (try dsimp only at hSw); go_simp; (try (with_reducible rfl)))
                go_frame
                refine wpAnyH_takeD (some 45) (i := 1) (v := ?vh2_1) rfl rfl (by kernel_rfl) (by kernel_rfl) (by kernel_rfl) (fun _ _ _ h => h) (by rfl) ?hh2_1 (by assumption) ?_
                case hh2_1 => (intro wq hSw; (try dsimp only at hSw); go_simp; (try (with_reducible rfl)))
                go_frame
                refine wpAnyH_takeD (some 46) (i := 2) (v := ?vh2_2) rfl rfl (by kernel_rfl) (by kernel_rfl) (by kernel_rfl) (fun _ _ _ h => h) (by rfl) ?hh2_2 (by assumption) ?_
                case hh2_2 => (intro wq hSw; (try dsimp only at hSw); go_simp; (try (with_reducible rfl)))
                go_frame
                refine wpAnyH_takeD (some 47) (i := 3) (v := ?vh2_3) rfl rfl (by kernel_rfl) (by kernel_rfl) (by kernel_rfl) (fun _ _ _ h => h) (by rfl) ?hh2_3 (by assumption) ?_
                case hh2_3 => (intro wq hSw; (try dsimp only at hSw); go_simp; (try (with_reducible rfl)))
                go_frame
                refine wpAnyH_takeD (some 48) (i := 4) (v := ?vh2_4) rfl rfl (by kernel_rfl) (by kernel_rfl) (by kernel_rfl) (fun _ _ _ h => h) (by rfl) ?hh2_4 (by assumption) ?_
                case hh2_4 => (intro wq hSw; (try dsimp only at hSw); go_simp; (try (with_reducible rfl)))
                go_frame
                refine wpAnyH_takeD (some 49) (i := 5) (v := ?vh2_5) rfl rfl (by kernel_rfl) (by kernel_rfl) (by kernel_rfl) (fun _ _ _ h => h) (by rfl) ?hh2_5 (by assumption) ?_
                case hh2_5 => (intro wq hSw; (try dsimp only at hSw); go_simp; (try (with_reducible rfl)))
                go_frame
                refine wpAnyH_takeD (some 50) (i := 6) (v := ?vh2_6) rfl rfl (by kernel_rfl) (by kernel_rfl) (by kernel_rfl) (fun _ _ _ h => h) (by rfl) ?hh2_6 (by assumption) ?_
                case hh2_6 => (intro wq hSw; (try dsimp only at hSw); go_simp; (try (with_reducible rfl)))
                go_frame
                refine wpAnyH_takeD (some 51) (i := 7) (v := ?vh2_7) rfl rfl (by kernel_rfl) (by kernel_rfl) (by kernel_rfl) (fun _ _ _ h => h) (by rfl) ?hh2_7 (by assumption) ?_
                case hh2_7 => (intro wq hSw; (try dsimp only at hSw); go_simp; (try (with_reducible rfl)))
                go_frame
                refine wpAnyH_takeD (some 52) (i := 8) (v := ?vh2_8) rfl rfl (by kernel_rfl) (by kernel_rfl) (by kernel_rfl) (fun _ _ _ h => h) (by rfl) ?hh2_8 (by assumption) ?_
                case hh2_8 => (intro wq hSw; (try dsimp only at hSw); go_simp; (try (with_reducible rfl)))
                go_frame
                refine wpAnyH_takeD (some 53) (i := 9) (v := ?vh2_9) rfl rfl (by kernel_rfl) (by kernel_rfl) (by kernel_rfl) (fun _ _ _ h => h) (by rfl) ?hh2_9 (by assumption) ?_
                case hh2_9 => (intro wq hSw; (try dsimp only at hSw); go_simp; (try (with_reducible rfl)))
                go_frame
                refine wpAnyH_takeD (some 54) (i := 10) (v := (Ev.mk x y).val) rfl rfl (by kernel_rfl) (by kernel_rfl) (by kernel_rfl) (fun _ _ _ h => h) (by rfl) (fun wq _ => run_buildEv x y (.tmp 48) (.tmp 53) rfl rfl rfl wq) (by assumption) ?_
                go_frame
                refine wpAnyH_ready (rs := [11]) (by kernel_rfl) (by simp) ?_
                refine AllReadyH.cons rfl (fun K hK => ?_) AllReadyH.nil
                rw [if_pos (by rfl)]
                refine wp_build1 (some 55) (by rfl) 36 51 (.tmp 54) (by rfl) (Ev.mk x y).cells (by rfl) Tryz.underlying36 (by rw [Ev.size_cells]; kernel_rfl) (by rw [Ev.size_cells]; omega) (by rw [Ev.size_cells]; omega) ?_
                refine hK.out _ _ (HSgs.out _ (hbw2.drew.alloc hbw2.size _)) (fun hHeld => ?_)
                clear hK K
                try go_frame
                refine wpAnyH_ready (rs := [12]) (by kernel_rfl) (by simp) ?_
                refine AllReadyH.cons rfl (fun K hK => ?_) AllReadyH.nil
                rw [if_pos (by rfl)]
                refine wp_appD (some 56) (by rfl) (.tmp 44) (.tmp 55) _ (by rfl) w.heap.size 51 (.agg zeroEc) 46 176 Tryz.underlying36 info_ev rfl (by decide) u3 E.length (E.flatMap evc) (by rfl) (own_drew HOwn2.out |>.alloc _) (w2.drew.heap.size + 1) (some ⟨w2.drew.heap.size, 0, none⟩) 1 1 (evc (Ev.mk x y)) (by rfl) (by rw [Array.length_toList, Ev.size_cells]) (Rd.mk (by omega) (fun k u hu => by rw [Nat.zero_add, (Blk.new w2.drew _ _).cell]; simpa using hu)) (fun u hu => (Ev.mk x y).one u hu) (by omega) (by unfold maxLen; omega) (by have := hbw2.size; simp; omega) ?_; intro v5 w5 hown5 hg5 hat5; have hbw5 : Below w.heap.size w w5 := below_own (hbw2.drew.alloc hbw2.size _) ((own_drew HOwn2.out).alloc _) hg5
                refine hK.out _ _ (HSgs.out _ hbw5) (fun hHeld => ?_)
                clear hK K
                try go_frame
                refine wpAnyH_takeD (some 3) (i := 13) (v := ?vh2_13) rfl rfl (by kernel_rfl) (by kernel_rfl) (by kernel_rfl) (fun _ _ _ h => h) (by rfl) ?hh2_13 (by assumption) ?_
                case hh2_13 => (intro wq hSw; (try dsimp only at hSw); go_simp; (try (with_reducible rfl)))
                go_frame
                refine wpAnyH_done (by kernel_rfl) ?_ _
                refine NoPanic.normal ?_
                have HOwn5 := Lib.hid hown5
                clear hown5 hg5 hat5
                go_wp2_with fail
                go_roundw
                case rel =>
                  refine ⟨i + 1, true, E ++ [Ev.mk x y], by rw [HN.out]; omega, by go_num, rfl, ?_, hbw5, fun h => (by cases h), fun _ => ?_⟩
                  · have h := HOwn5.out
                    rw [List.length_append, List.flatMap_append]
                    simpa using h
                  · have h := HStep.out
                    rw [if_pos ⟨hsg, of_decide_eq_true HC.out.symm⟩] at h
                    rw [findF_succ, hE.out.2, h, hE.out.1]; rfl
                case measure => simp [intOf]; omega
              | false =>
                go_wp2
                go_roundw
                case rel =>
                  refine ⟨i + 1, false, E, by rw [HN.out]; omega, by go_num, rfl, HOwn2.out, hbw2, fun _ => ⟨hE.out.1, ?_⟩, fun h => (by cases h)⟩
                  have h := HStep.out
                  rw [if_neg (fun h => of_decide_eq_false HC.out.symm h.2)] at h
                  rw [hE.out.2, h]
                case measure => simp [intOf]; omega
            · have hsg' : (x.vote.signer == (s : Int)) = false := by simpa using hsg
              go_upto_region 9 with fail
              refine wp_region_noPanic ?_
              refine wp_region_held_drew (S := fun w' => rowAt w' b (o + i * 23) 22 = some x.vote.cells ∧ rowAt w' b (o + (i + 1) * 23) 22 = some y.vote.cells ∧ w'.cell? ⟨b, o + i * 23 + 4, none⟩ = some (I x.vote.signer)) (by kernel_rfl) (HRows.out _ hbw.drew) (fun hHeld => ?_)
              refine wpAnyH_takeD (some 22) (i := 0) (v := ?vh3_0) rfl rfl (by kernel_rfl) (by kernel_rfl) (by kernel_rfl) (fun _ _ _ h => h) (by rfl) ?hh3_0 (by assumption) ?_
              case hh3_0 => (intro wq hSw; (try dsimp only at hSw); go_simp; (try (with_reducible rfl)))
              go_frame
              refine wpAnyH_takeD (some 23) (i := 1) (v := ?vh3_1) rfl rfl (by kernel_rfl) (by kernel_rfl) (by kernel_rfl) (fun _ _ _ h => h) (by rfl) ?hh3_1 (by assumption) ?_
              case hh3_1 => (intro wq hSw; (try dsimp only at hSw); go_simp; (try (with_reducible rfl)))
              go_frame
              refine wpAnyH_takeD (some 24) (i := 2) (v := ?vh3_2) rfl rfl (by kernel_rfl) (by kernel_rfl) (by kernel_rfl) (fun _ _ _ h => h) (by rfl) ?hh3_2 (by assumption) ?_
              case hh3_2 => (intro wq hSw; (try dsimp only at hSw); go_simp; (try (with_reducible rfl)))
              go_frame
              refine wpAnyH_takeD (some 25) (i := 3) (v := ?vh3_3) rfl rfl (by kernel_rfl) (by kernel_rfl) (by kernel_rfl) (fun _ _ _ h => h) (by rfl) ?hh3_3 (by assumption) ?_
              case hh3_3 => (intro wq hSw; (try dsimp only at hSw); go_simp; (try (with_reducible rfl)))
              go_frame
              refine wpAnyH_takeD (some 26) (i := 4) (v := ?vh3_4) rfl rfl (by kernel_rfl) (by kernel_rfl) (by kernel_rfl) (fun _ _ _ h => h) (by rfl) ?hh3_4 (by assumption) ?_
              case hh3_4 => (intro wq hSw; (try dsimp only at hSw); go_simp; (try (with_reducible rfl)))
              go_frame
              refine wpAnyH_takeD (some 27) (i := 5) (v := ?vh3_5) rfl rfl (by kernel_rfl) (by kernel_rfl) (by kernel_rfl) (fun _ _ _ h => h) (by rfl) ?hh3_5 (by assumption) ?_
              case hh3_5 => (intro wq hSw; (try dsimp only at hSw); go_simp; (try (with_reducible rfl)))
              go_frame
              refine wpAnyH_takeD (some 28) (i := 6) (v := ?vh3_6) rfl rfl (by kernel_rfl) (by kernel_rfl) (by kernel_rfl) (fun _ _ _ h => h) (by rfl) ?hh3_6 (by assumption) ?_
              case hh3_6 => (intro wq hSw; (try dsimp only at hSw); go_simp; (try (with_reducible rfl)))
              go_frame
              refine wpAnyH_takeD (some 29) (i := 7) (v := ?vh3_7) rfl rfl (by kernel_rfl) (by kernel_rfl) (by kernel_rfl) (fun _ _ _ h => h) (by rfl) ?hh3_7 (by assumption) ?_
              case hh3_7 => (intro wq hSw; (try dsimp only at hSw); go_simp; (try (with_reducible rfl)))
              go_frame
              refine wpAnyH_takeD (some 30) (i := 8) (v := ?vh3_8) rfl rfl (by kernel_rfl) (by kernel_rfl) (by kernel_rfl) (fun _ _ _ h => h) (by rfl) ?hh3_8 (by assumption) ?_
              case hh3_8 => (intro wq hSw; (try dsimp only at hSw); go_simp; (try (with_reducible rfl)))
              go_frame
              refine wpAnyH_skipD (some 31) (i := 9) rfl rfl (by kernel_rfl) (by kernel_rfl) (by kernel_rfl) (fun _ _ _ h => h) (by rfl) (by assumption) ?_
              go_frame
              refine wpAnyH_skipD (some 32) (i := 10) rfl rfl (by kernel_rfl) (by kernel_rfl) (by kernel_rfl) (fun _ _ _ h => h) (by rfl) (by assumption) ?_
              go_frame
              refine wpAnyH_skipD (some 33) (i := 11) rfl rfl (by kernel_rfl) (by kernel_rfl) (by kernel_rfl) (fun _ _ _ h => h) (by rfl) (by assumption) ?_
              go_frame
              refine wpAnyH_skipD (some 34) (i := 12) rfl rfl (by kernel_rfl) (by kernel_rfl) (by kernel_rfl) (fun _ _ _ h => h) (by rfl) (by assumption) ?_
              go_frame
              refine wpAnyH_skipD (some 35) (i := 13) rfl rfl (by kernel_rfl) (by kernel_rfl) (by kernel_rfl) (fun _ _ _ h => h) (by rfl) (by assumption) ?_
              go_frame
              refine wpAnyH_skipD (some 36) (i := 14) rfl rfl (by kernel_rfl) (by kernel_rfl) (by kernel_rfl) (fun _ _ _ h => h) (by rfl) (by assumption) ?_
              go_frame
              refine wpAnyH_skipD (some 37) (i := 15) rfl rfl (by kernel_rfl) (by kernel_rfl) (by kernel_rfl) (fun _ _ _ h => h) (by rfl) (by assumption) ?_
              go_frame
              refine wpAnyH_skipD (some 38) (i := 16) rfl rfl (by kernel_rfl) (by kernel_rfl) (by kernel_rfl) (fun _ _ _ h => h) (by rfl) (by assumption) ?_
              go_frame
              refine wpAnyH_skipD (some 39) (i := 17) rfl rfl (by kernel_rfl) (by kernel_rfl) (by kernel_rfl) (fun _ _ _ h => h) (by rfl) (by assumption) ?_
              go_frame
              refine wpAnyH_skipD (some 40) (i := 18) rfl rfl (by kernel_rfl) (by kernel_rfl) (by kernel_rfl) (fun _ _ _ h => h) (by rfl) (by assumption) ?_
              go_frame
              refine wpAnyH_skipD (some 41) (i := 19) rfl rfl (by kernel_rfl) (by kernel_rfl) (by kernel_rfl) (fun _ _ _ h => h) (by rfl) (by assumption) ?_
              go_frame
              refine wpAnyH_skipD (some 42) (i := 20) rfl rfl (by kernel_rfl) (by kernel_rfl) (by kernel_rfl) (fun _ _ _ h => h) (by rfl) (by assumption) ?_
              go_frame
              refine wpAnyH_takeD (some 43) (i := 21) (v := ?vh3_21) rfl rfl (by kernel_rfl) (by kernel_rfl) (by kernel_rfl) (fun _ _ _ h => h) (by rfl) ?hh3_21 (by assumption) ?_
              case hh3_21 => (intro wq hSw; (try dsimp only at hSw); go_simp; (try (with_reducible rfl)))
              go_frame
              refine wpAnyH_done (by kernel_rfl) ?_ _
              refine NoPanic.normal ?_
              go_wp2
              go_roundw
              case rel =>
                refine ⟨i + 1, false, E, by rw [HN.out]; omega, by go_num, rfl, own_drew HOwn.out, hbw.drew, fun _ => ⟨(H1.out rfl).1, ?_⟩, fun h => (by cases h)⟩
                have h := HStep.out
                rw [if_neg (fun h => hsg h.1)] at h
                rw [(H1.out rfl).2, h]
              case measure => simp [intOf]; omega
          · have di : decide ((i : Int) + 1 < (n : Int)) = false := by simp; omega
            go_wp2
            go_roundw
            case rel =>
              refine ⟨s + 1, by omega, by go_num, ?_, hbw⟩
              rw [findF_succ, (H1.out rfl).2, firstC_short (by rw [HN.out]; omega), ← (H1.out rfl).1]
              simpa using HOwn.out
            case measure => simp [intOf]; omega
    · obtain rfl : s = 10 := by omega
      go_wp2
      go_ret
      exact ⟨_, rfl, hbw, hown⟩
end Go.Proofs.YthmecidpjlaonaaGreat
namespace Go.Proofs.YthmecidpjlaonaaGreat
open Go.RowKit

theorem vfd_sub {keys : List Nm} {l : List Sg} : ∀ s ∈ vfd keys l, s ∈ l := fun _ hs => (List.mem_filter.1 hs).1
theorem vfd_all_le (keys : List Nm) (l : List Sg) : (vfd keys l).length ≤ l.length := List.length_filter_le _ _
theorem rvfd_any (K A : Option Addr) (nk ck n c : Nat) (keys : List Nm) (l : List Sg) (w : World) (hnk : keys.length = nk) (hn : l.length = n) (hK : Rd w w.heap.size K (keys.flatMap nmc)) (hr : Rd w w.heap.size A (l.flatMap sgc))
    (hok : SgsOk w w.heap.size l) (hsmall : n ≤ 1000000) : Calls Tryz.prog 10 #[.slice K nk ck, .slice A n c] w (CanPost w ((vfd keys l).map Sg.vs)) := by
  refine (rvfd_core K A nk ck n c keys l w (fun W => CanPost W ((vfd keys l).map Sg.vs)) hnk hn hK hr hok hsmall ?_ ?_).mono ?_
  · intro v W hb hown
    obtain ⟨A', c', rfl, h1, h2, h3, h4⟩ := own_slice hown rfl (((hok.sub vfd_sub).below hb).more hb.size)
    have hl := vfd_all_le keys l
    exact rcan_any _ A' _ c' _ W (Nat.le_refl _) rfl h1 h4 (by omega) h2 h3
  · rintro W e w' ⟨L, v, rfl, _⟩
    exact ⟨v, rfl⟩
  · rintro e w' ⟨W, hb, L, v, rfl, hb', hown, hok', he⟩
    exact ⟨L, v, rfl, hb.trans (hb'.mono hb.size), own_base hown hb.size, hok', he⟩
/-- What Find returns: the evidence in the canonical list of the votes that verify. -/
def FindsPost (w : World) (c : List VS) (e : Ending) (w' : World) : Prop :=
  ∃ (L : List Sg) (v : Value), e = .returned v ∧ Below w.heap.size w w' ∧ w'.ownsRow w.heap.size 51 46 v (findF L 10).length ((findF L 10).flatMap evc) ∧ SgsOk w' w'.heap.size L ∧ L.map Sg.vs = c

set_option maxRecDepth 100000 in
set_option maxHeartbeats 1000000 in
theorem rfind_any (K A : Option Addr) (nk ck n c : Nat) (keys : List Nm) (l : List Sg) (w : World) (hnk : keys.length = nk) (hn : l.length = n) (hK : Rd w w.heap.size K (keys.flatMap nmc)) (hr : Rd w w.heap.size A (l.flatMap sgc))
    (hok : SgsOk w w.heap.size l) (hsmall : n ≤ 1000000) : Calls Tryz.prog 30 #[.slice K nk ck, .slice A n c] w (FindsPost w (canF ((vfd keys l).map Sg.vs))) := by
  have h1 := rvfd_any K A nk ck n c keys l w hnk hn hK hr hok hsmall
  have hl : (canF ((vfd keys l).map Sg.vs)).length ≤ 1000000 := by
    have a := canF_len ((vfd keys l).map Sg.vs)
    have b := vfd_all_le keys l
    rw [List.length_map] at a
    omega
  obtain ⟨cl, hcl⟩ : ∃ cl, cl = canF ((vfd keys l).map Sg.vs) := ⟨_, rfl⟩
  rw [← hcl] at hl
  have H1 : Hid (Calls Tryz.prog 10 #[.slice K nk ck, .slice A n c] w fun e w' => ∃ (L : List Sg) (v : Value), e = .returned v ∧ Below w.heap.size w w' ∧ SlOk w' L v ∧ L.map Sg.vs = cl) := by
    refine h1.mono ?_
    rintro e w' ⟨L, v, rfl, hb, hown, hok', he⟩
    exact ⟨L, v, rfl, hb, own_slice hown rfl hok', he.trans hcl.symm⟩
  rw [← hcl]
  clear h1 hcl hK hr hok hn hnk
  go_enter Tryz.func30, Tryz.ntmps30
  go_wp2_with (go_at_call 10; refine H1.out.mono ?_; rintro en w2 ⟨L, v, rfl, hb2, ⟨A2, c2, rfl, hr2, hc2, hm2, hk2⟩, he2⟩)
  have hL : L.length ≤ 1000000 := by
    have := congrArg List.length he2
    rw [List.length_map] at this
    omega
  refine (rfindin_any A2 L.length c2 L w2 rfl hr2 hk2 hL).mono ?_
  rintro en w3 ⟨v3, rfl, hb3, hown3⟩
  go_wp2
  go_ret
  exact ⟨L, v3, rfl, hb2.trans (hb3.mono hb2.size), own_base hown3 hb2.size, (hk2.below hb3).more hb3.size, he2⟩
end Go.Proofs.YthmecidpjlaonaaGreat
namespace Go.Proofs.YthmecidpjlaonaaGreat

/-- What two votes in conflict have in common. -/
structure Ky where
  kind : Int
  slot : Int
  round : Int
  signer : Int
  parent : Nm
  deriving DecidableEq
def kyOf (v : Vt) : Ky := ⟨v.kind, v.slot, v.round, v.signer, v.parent⟩
theorem same_ky (a b : Vt) : SameP a b ↔ kyOf a = kyOf b := by
  unfold SameP kyOf
  simp only [Ky.mk.injEq]
  constructor
  · rintro ⟨h1, h2, h3, h4, h5⟩; exact ⟨h1, h3, h4, h5, h2⟩
  · rintro ⟨h1, h3, h4, h5, h2⟩; exact ⟨h1, h2, h3, h4, h5⟩
def pre5 (v : Vt) : List Int := [(numN v.parent.bytes : Int), v.slot, v.round, v.kind, v.signer]
theorem pre5_ky {a b : Vt} : pre5 a = pre5 b ↔ kyOf a = kyOf b := by
  unfold pre5 kyOf
  simp only [List.cons.injEq, and_true, nm_iff, Ky.mk.injEq]
  constructor
  · rintro ⟨h1, h2, h3, h4, h5⟩; exact ⟨h4, h2, h3, h5, h1⟩
  · rintro ⟨h4, h2, h3, h5, h1⟩; exact ⟨h1, h2, h3, h4, h5⟩
theorem less_pre {a b : Vt} (h : lessV a b = true) : pre5 a = pre5 b ∨ lexLt (pre5 a) (pre5 b) = true := by
  rw [lessV_lex, show keyV a = pre5 a ++ [a.choice, (numN a.value.bytes : Int), a.support] from rfl, show keyV b = pre5 b ++ [b.choice, (numN b.value.bytes : Int), b.support] from rfl, lexLt_append (pre5 a) (pre5 b) _ _ (by simp [pre5])] at h
  by_cases e : pre5 a = pre5 b
  · exact .inl e
  · rw [if_neg e] at h; exact .inr h
/-- Between two votes of one key lie votes of that key alone. -/
theorem ky_between {a b c : Vt} (h : lessV a b = true) (h' : lessV b c = true) (e : kyOf a = kyOf c) : kyOf a = kyOf b := by
  rw [← pre5_ky] at e ⊢
  rcases less_pre h with h1 | h1
  · exact h1
  · rcases less_pre h' with h2 | h2
    · rw [e, h2]
    · rw [e] at h1
      have := lexLt_asymm h1
      rw [h2] at this; cases this
/-- The first of a key. -/
def firstK (κ : Ky) : List Sg → Option Sg
  | [] => none
  | x :: r => if kyOf x.vote = κ then some x else firstK κ r
def StrictL (l : List Sg) : Prop := l.Pairwise fun x y => lessV x.vote y.vote = true
theorem strictL_iff (l : List Sg) : StrictL l ↔ StrictV (l.map Sg.vs) := by unfold StrictL StrictV; rw [List.pairwise_map]
theorem firstK_append (κ : Ky) (s : Sg) : ∀ l, firstK κ (l ++ [s]) = (firstK κ l).or (if kyOf s.vote = κ then some s else none)
  | [] => by rw [List.nil_append, firstK, firstK]; simp [firstK]
  | x :: r => by
    rw [List.cons_append, firstK, firstK, firstK_append κ s r]
    by_cases h : kyOf x.vote = κ
    · rw [if_pos h, if_pos h]; rfl
    · rw [if_neg h, if_neg h]
theorem firstK_mem {κ : Ky} {a : Sg} : ∀ {l : List Sg}, firstK κ l = some a → a ∈ l ∧ kyOf a.vote = κ
  | [], h => by cases h
  | x :: r, h => by
    rw [firstK] at h
    by_cases e : kyOf x.vote = κ
    · rw [if_pos e] at h; cases h; exact ⟨by simp, e⟩
    · rw [if_neg e] at h
      have := firstK_mem h
      exact ⟨List.mem_cons_of_mem _ this.1, this.2⟩
theorem firstK_none {κ : Ky} : ∀ {l : List Sg}, firstK κ l = none → ∀ x ∈ l, kyOf x.vote ≠ κ
  | [], _, _, hx => by cases hx
  | x :: r, h, y, hy => by
    rw [firstK] at h
    by_cases e : kyOf x.vote = κ
    · rw [if_pos e] at h; cases h
    · rw [if_neg e] at h
      rcases List.mem_cons.1 hy with rfl | hy
      · exact e
      · exact firstK_none h y hy
theorem firstC_append (i : Nat) (s : Sg) : ∀ l : List Sg, firstC i (l ++ [s]) = (firstC i l).or (match l.getLast? with | some y => if y.vote.signer = (i : Int) ∧ ConfP y.vote s.vote then some ⟨y, s⟩ else none | none => none)
  | [] => rfl
  | [x] => by
    show firstC i [x, s] = _
    rw [firstC]
    by_cases h : x.vote.signer = (i : Int) ∧ ConfP x.vote s.vote
    · rw [if_pos h]; simp [firstC, h]
    · rw [if_neg h]; simp [firstC, h]
  | x :: y :: r => by
    have ih := firstC_append i s (y :: r)
    rw [List.cons_append, List.cons_append, firstC, firstC]
    rw [List.cons_append] at ih
    by_cases h : x.vote.signer = (i : Int) ∧ ConfP x.vote y.vote
    · rw [if_pos h, if_pos h]; rfl
    · rw [if_neg h, if_neg h, ih, List.getLast?_cons_cons]
theorem firstC_skip {i : Nat} {s : Sg} {l : List Sg} (h : ∀ y, l.getLast? = some y → ¬ (y.vote.signer = (i : Int) ∧ ConfP y.vote s.vote)) : firstC i (l ++ [s]) = firstC i l := by
  rw [firstC_append]
  rcases hl : l.getLast? with _ | y
  · simp
  · simp [h y hl]
/-- The first vote of its key: nothing is found. -/
theorem find_new {i : Nat} {s : Sg} {l : List Sg} (h : firstK (kyOf s.vote) l = none) : firstC i (l ++ [s]) = firstC i l :=
  firstC_skip fun y hy hc => firstK_none h y (List.mem_of_getLast? hy) ((same_ky _ _).1 hc.2.2.1)
theorem find_other {i : Nat} {s : Sg} {l : List Sg} (h : s.vote.signer ≠ (i : Int)) : firstC i (l ++ [s]) = firstC i l :=
  firstC_skip fun y _ hc => h (by rw [← hc.2.2.1.2.2.2.2]; exact hc.1)
theorem find_kept {i : Nat} {s : Sg} {l : List Sg} {e : Ev} (h : firstC i l = some e) : firstC i (l ++ [s]) = some e := by rw [firstC_append, h]; rfl
theorem conf_next {x y : Sg} (hx : ValidP x.vote) (hy : ValidP y.vote) (hl : lessV x.vote y.vote = true) (hk : kyOf x.vote = kyOf y.vote) : ConfP x.vote y.vote :=
  ⟨(fun e => by rw [e, lessV_irrefl] at hl; cases hl), (same_ky _ _).2 hk, hx, hy⟩
theorem last_is {i : Nat} {a s : Sg} (hs : ValidP s.vote) (hi : s.vote.signer = (i : Int)) : ∀ {l : List Sg}, StrictL (l ++ [s]) → (∀ x ∈ l, ValidP x.vote) → firstK (kyOf s.vote) l = some a → firstC i l = none → l.getLast? = some a
  | [], _, _, h, _ => by cases h
  | [x], _, _, h, _ => by
    rw [firstK] at h
    split at h
    · exact h
    · cases h
  | x :: y :: r, hst, hv, h, hc => by
    have hst' : StrictL (x :: (y :: r ++ [s])) := hst
    obtain ⟨h1, h2⟩ := List.pairwise_cons.1 hst'
    have hxy : lessV x.vote y.vote = true := h1 y (by simp)
    have hys : lessV y.vote s.vote = true := (List.pairwise_cons.1 (show StrictL (y :: (r ++ [s])) from h2)).1 s (by simp)
    have hcc : ¬ (x.vote.signer = (i : Int) ∧ ConfP x.vote y.vote) := fun hh => by rw [firstC, if_pos hh] at hc; cases hc
    rw [firstC, if_neg hcc] at hc
    have hx : ¬ kyOf x.vote = kyOf s.vote := by
      intro e
      have e2 := ky_between hxy hys e
      refine hcc ⟨?_, conf_next (hv x (by simp)) (hv y (by simp)) hxy e2⟩
      rw [← hi]
      exact congrArg Ky.signer e
    rw [firstK, if_neg hx] at h
    rw [List.getLast?_cons_cons]
    exact last_is hs hi h2 (fun z hz => hv z (List.mem_cons_of_mem _ hz)) h hc
/-- The second of a key, the first of its signer. -/
theorem find_first {i : Nat} {a s : Sg} {l : List Sg} (hs : ValidP s.vote) (hi : s.vote.signer = (i : Int)) (hst : StrictL (l ++ [s])) (hv : ∀ x ∈ l, ValidP x.vote) (h : firstK (kyOf s.vote) l = some a) (hc : firstC i l = none) : firstC i (l ++ [s]) = some ⟨a, s⟩ := by
  have hl := last_is hs hi hst hv h hc
  obtain ⟨ha, hk⟩ := firstK_mem h
  rw [firstC_append, hc, hl]
  have hlt : lessV a.vote s.vote = true := (List.pairwise_append.1 hst).2.2 a ha s (by simp)
  simp only [Option.none_or]
  rw [if_pos]
  refine ⟨?_, conf_next (hv a ha) hs hlt hk⟩
  rw [← hi]
  exact congrArg Ky.signer hk
/-- A later one is not ahead of what was found. -/
theorem find_later {i : Nat} {a s : Sg} {e : Ev} (hs : ValidP s.vote) (hi : s.vote.signer = (i : Int)) : ∀ {l : List Sg}, StrictL (l ++ [s]) → (∀ x ∈ l, ValidP x.vote) → firstK (kyOf s.vote) l = some a → firstC i l = some e → lessV a.vote e.a.vote = false
  | [], _, _, h, _ => by cases h
  | [x], _, _, _, hc => by cases hc
  | x :: y :: r, hst, hv, h, hc => by
    have hst' : StrictL (x :: (y :: r ++ [s])) := hst
    obtain ⟨h1, h2⟩ := List.pairwise_cons.1 hst'
    have hxy : lessV x.vote y.vote = true := h1 y (by simp)
    have hys : lessV y.vote s.vote = true := (List.pairwise_cons.1 (show StrictL (y :: (r ++ [s])) from h2)).1 s (by simp)
    rw [firstC] at hc
    by_cases hcc : x.vote.signer = (i : Int) ∧ ConfP x.vote y.vote
    · rw [if_pos hcc] at hc
      cases hc
      rcases List.mem_cons.1 (firstK_mem h).1 with rfl | ha
      · exact lessV_irrefl _
      · exact lessV_asymm (h1 a (by simpa using Or.inl (List.mem_cons.1 ha) |>.elim (fun h => by rcases h with h | h <;> simp [h]) id))
    · rw [if_neg hcc] at hc
      have hx : ¬ kyOf x.vote = kyOf s.vote := by
        intro e
        have e2 := ky_between hxy hys e
        refine hcc ⟨?_, conf_next (hv x (by simp)) (hv y (by simp)) hxy e2⟩
        rw [← hi]
        exact congrArg Ky.signer e
      rw [firstK, if_neg hx] at h
      exact find_later hs hi h2 (fun z hz => hv z (List.mem_cons_of_mem _ hz)) h hc
end Go.Proofs.YthmecidpjlaonaaGreat
namespace Go.Proofs.YthmecidpjlaonaaGreat
open Go.RowKit

abbrev Ky.cells (k : Ky) : Array Value := #[I k.kind, I k.slot, I k.round, I k.signer, B k.parent.b0, B k.parent.b1, B k.parent.b2, B k.parent.b3, B k.parent.b4, B k.parent.b5, B k.parent.b6, B k.parent.b7]
abbrev encK (k : Ky) : Value := .agg k.cells

set_option maxRecDepth 100000 in
theorem keyK_eq (a b : Ky) (w : World) : (Op.equal 81 (encK a) (encK b)).run Tryz.prog w = .ok (decide (a = b)) w := by
  show (Op.equalIn 10000 81 (encK a) (encK b)).run Tryz.prog w = _
  have u3 := Tryz.underlying3
  have a3 := Tryz.isAgg3
  have z3 := Tryz.sizeOf3
  have a5 := Tryz.isAgg29
  have z5 := Tryz.sizeOf29
  have hS : Tryz.prog.underlying 81 = some (.struct (Tryz.prog.fieldsOf 81)) := by kernel_rfl
  rw [show (10000 : Nat) = 9999 + 1 from rfl, run_equalIn_agg w 9999 81 _ _ hS (by kernel_rfl)]
  have e6 := fun w => eqNm a.parent b.parent w 9997
  simp only [Program.fieldsOf, Tryz.underlying81]
  go_simp
  rw [ite_last]
  iterate 3 rw [ite_ok w rfl]
  refine ite_ok w ?_
  cases a; cases b; simp
set_option maxRecDepth 100000 in
theorem checkNm (b : Bool) (d : Nat) (k : Nm) (w : World) : (Instr.checkKey b (d + 2) 29 k.val).run Tryz.prog w = .ok () w := by
  have a3 := Tryz.isAgg5
  have z3 := Tryz.sizeOf5
  have hi := fun n w => check_byte b d n w
  rw [Instr.checkKey]
  simp only [Sem.run_bind, run_underlying Tryz.underlying29, Result.andThen_ok]
  simp only [Std.Legacy.Range.forIn_eq_forIn_range', Std.Legacy.Range.size, Nat.sub_zero, Nat.add_sub_cancel, Nat.div_one, List.range'_succ, List.range'_zero, List.forIn_cons, List.forIn_nil]
  go_simp
set_option maxRecDepth 100000 in
theorem keyK_check (b : Bool) (k : Ky) (w : World) : (Instr.checkKey b 10000 81 (encK k)).run Tryz.prog w = .ok () w := by
  have a3 := Tryz.isAgg3
  have z3 := Tryz.sizeOf3
  have hi := fun n w => check_int b 9998 n w
  have a5 := Tryz.isAgg29
  have z5 := Tryz.sizeOf29
  have e6 := fun w => checkNm b 9997 k.parent w
  rw [Instr.checkKey]
  simp only [Sem.run_bind, run_underlying Tryz.underlying81, Result.andThen_ok]
  go_simp
theorem keyK : KeyOk Tryz.prog 81 encK where
  desc := ⟨_, Tryz.underlying81, fun _ _ => rfl⟩
  check := keyK_check
  eq := keyK_eq
  bits k := bits_agg 9999 _ (by intro v hv; simp at hv; rcases hv with rfl | rfl | rfl | rfl | rfl | rfl | rfl | rfl | rfl | rfl | rfl | rfl <;> simp [Instr.sameBits])
end Go.Proofs.YthmecidpjlaonaaGreat
namespace Go.Proofs.YthmecidpjlaonaaGreat

abbrev ES := VS × VS
abbrev Ev.vs (e : Ev) : ES := (e.a.vs, e.b.vs)
def firstS (s : Nat) : List VS → Option ES
  | x :: y :: r => if x.1.signer = (s : Int) ∧ ConfP x.1 y.1 then some (x, y) else firstS s (y :: r)
  | _ => none
def findS (c : List VS) (k : Nat) : List ES := (List.range k).filterMap fun s => firstS s c
theorem firstS_map (s : Nat) : ∀ l : List Sg, firstS s (l.map Sg.vs) = (firstC s l).map Ev.vs
  | [] => rfl
  | [_] => rfl
  | x :: y :: r => by
    have ih := firstS_map s (y :: r)
    rw [List.map_cons, List.map_cons, firstS, firstC]
    rw [List.map_cons] at ih
    by_cases h : x.vote.signer = (s : Int) ∧ ConfP x.vote y.vote
    · rw [if_pos h, if_pos h]; rfl
    · rw [if_neg h, if_neg h, ih]
theorem findS_map (l : List Sg) (k : Nat) : findS (l.map Sg.vs) k = (findF l k).map Ev.vs := by
  unfold findS findF
  rw [List.map_filterMap]
  congr 1
  funext s
  exact firstS_map s l
theorem firstS_some {s : Nat} {e : ES} : ∀ {c : List VS}, firstS s c = some e → e.1 ∈ c ∧ e.2 ∈ c ∧ e.1.1.signer = (s : Int) ∧ ConfP e.1.1 e.2.1 ∧ (StrictV c → lessV e.1.1 e.2.1 = true)
  | [], h => by cases h
  | [_], h => by cases h
  | x :: y :: r, h => by
    rw [firstS] at h
    split at h
    · rename_i hc
      cases h
      exact ⟨by simp, by simp, hc.1, hc.2, fun hs => (List.pairwise_cons.1 hs).1 y (by simp)⟩
    · obtain ⟨h1, h2, h3, h4, h5⟩ := firstS_some h
      exact ⟨List.mem_cons_of_mem _ h1, List.mem_cons_of_mem _ h2, h3, h4, fun hs => h5 (List.pairwise_cons.1 hs).2⟩
theorem firstS_full {s : Nat} : ∀ {c : List VS}, StrictV c → (∀ x ∈ c, ValidP x.1) → firstS s c = none → ∀ x ∈ c, ∀ y ∈ c, x.1.signer = (s : Int) → lessV x.1 y.1 = true → ¬ ConfP x.1 y.1
  | [], _, _, _, _, hx, _, _, _, _ => by cases hx
  | [z], _, _, _, x, hx, y, hy, _, hl => by
    rw [List.mem_singleton.1 hx, List.mem_singleton.1 hy, lessV_irrefl] at hl; cases hl
  | a :: b :: r, hs, hv, h, x, hx, y, hy, hsg, hl => by
    obtain ⟨h1, h2⟩ := List.pairwise_cons.1 hs
    have hn : ¬ (a.1.signer = (s : Int) ∧ ConfP a.1 b.1) := fun hh => by rw [firstS, if_pos hh] at h; cases h
    rw [firstS, if_neg hn] at h
    have ih := firstS_full h2 (fun z hz => hv z (List.mem_cons_of_mem _ hz)) h
    rcases List.mem_cons.1 hx with rfl | hx2
    · rcases List.mem_cons.1 hy with rfl | hy2
      · rw [lessV_irrefl] at hl; cases hl
      · intro hc
        rcases List.mem_cons.1 hy2 with rfl | hy3
        · exact hn ⟨hsg, hc⟩
        · have hxb := h1 b (by simp)
          have hk := ky_between hxb ((List.pairwise_cons.1 h2).1 y hy3) ((same_ky _ _).1 hc.2.1)
          exact hn ⟨hsg, ⟨(fun e => by rw [e, lessV_irrefl] at hxb; cases hxb), (same_ky _ _).2 hk, hv x (by simp), hv b (by simp)⟩⟩
    · rcases List.mem_cons.1 hy with rfl | hy2
      · have := lessV_asymm (h1 x hx2); rw [hl] at this; cases this
      · exact ih x hx2 y hy2 hsg hl
/-- Signer s has two votes in conflict in c just if something is found of it. -/
theorem firstS_iff {s : Nat} {c : List VS} (hs : StrictV c) (hv : ∀ x ∈ c, ValidP x.1) : (firstS s c).isSome = true ↔ ∃ x ∈ c, ∃ y ∈ c, x.1.signer = (s : Int) ∧ ConfP x.1 y.1 := by
  constructor
  · intro h
    obtain ⟨e, he⟩ := Option.isSome_iff_exists.1 h
    obtain ⟨h1, h2, h3, h4, _⟩ := firstS_some he
    exact ⟨_, h1, _, h2, h3, h4⟩
  · rintro ⟨x, hx, y, hy, h3, h4⟩
    cases h : firstS s c with
    | some e => rfl
    | none =>
      exfalso
      have full := firstS_full hs hv h
      cases hl : lessV x.1 y.1 with
      | true => exact full x hx y hy h3 hl h4
      | false =>
        cases hl2 : lessV y.1 x.1 with
        | true => exact full y hy x hx (by rw [← h4.2.1.2.2.2.2]; exact h3) hl2 h4.symm
        | false => exact h4.1 (lessV_total hl hl2)

/-- The votes that verify. -/
def vfS (keys : List Nm) (l : List VS) : List VS := l.filter fun x => verK keys x.1 x.2
theorem vfd_vs (keys : List Nm) (l : List Sg) : (vfd keys l).map Sg.vs = vfS keys (l.map Sg.vs) := by
  unfold vfd vfS
  rw [List.filter_map]
  rfl
theorem verK_valid {keys : List Nm} {v : Vt} {g : List UInt8} (h : verK keys v g = true) : ValidP v := by
  unfold verK at h
  rw [Bool.and_eq_true, Bool.and_eq_true] at h
  have := h.2.2
  unfold verS at this
  rw [Bool.and_eq_true] at this
  exact of_decide_eq_true this.1
/-- The canonical list of the votes that verify. -/
def cvS (keys : List Nm) (l : List VS) : List VS := canF (vfS keys l)
theorem cvS_strict (keys : List Nm) (l : List VS) : StrictV (cvS keys l) := (canF_is _).asc
theorem cvS_mem {keys : List Nm} {l : List VS} {x : VS} (h : x ∈ cvS keys l) : x ∈ l ∧ verK keys x.1 x.2 = true := List.mem_filter.1 ((canF_is _).sub x h)
theorem cvS_valid {keys : List Nm} {l : List VS} : ∀ x ∈ cvS keys l, ValidP x.1 := fun _ h => verK_valid (cvS_mem h).2
theorem cvS_dom {keys : List Nm} {l : List VS} {x : VS} (h : x ∈ l) (hv : verK keys x.1 x.2 = true) : ∃ y ∈ cvS keys l, y.1 = x.1 := by
  obtain ⟨y, hy, e, _⟩ := (canF_is (vfS keys l)).dom x (List.mem_filter.2 ⟨h, hv⟩)
  exact ⟨y, hy, e⟩
theorem cvS_congr {keys : List Nm} {l l' : List VS} (h : ∀ x, x ∈ l ↔ x ∈ l') : cvS keys l = cvS keys l' :=
  canF_congr fun x => by unfold vfS; rw [List.mem_filter, List.mem_filter, h]
/-- Signer s is guilty of the list l. -/
def GuiltyP (keys : List Nm) (l : List VS) (s : Nat) : Prop := ∃ x ∈ l, ∃ y ∈ l, x.1.signer = (s : Int) ∧ ConfP x.1 y.1 ∧ verK keys x.1 x.2 = true ∧ verK keys y.1 y.2 = true
theorem guilty_iff (keys : List Nm) (l : List VS) (s : Nat) : (firstS s (cvS keys l)).isSome = true ↔ GuiltyP keys l s := by
  rw [firstS_iff (cvS_strict keys l) cvS_valid]
  constructor
  · rintro ⟨x, hx, y, hy, h3, h4⟩
    exact ⟨x, (cvS_mem hx).1, y, (cvS_mem hy).1, h3, h4, (cvS_mem hx).2, (cvS_mem hy).2⟩
  · rintro ⟨x, hx, y, hy, h3, h4, h5, h6⟩
    obtain ⟨x', hx', e1⟩ := cvS_dom hx h5
    obtain ⟨y', hy', e2⟩ := cvS_dom hy h6
    exact ⟨x', hx', y', hy', by rw [e1]; exact h3, by rw [e1, e2]; exact h4⟩
theorem GuiltyP.mono {keys : List Nm} {l l' : List VS} {s : Nat} (h : GuiltyP keys l s) (hl : ∀ x ∈ l, x ∈ l') : GuiltyP keys l' s := by
  obtain ⟨x, hx, y, hy, r⟩ := h
  exact ⟨x, hl x hx, y, hl y hy, r⟩
theorem GuiltyP.lt {keys : List Nm} {l : List VS} {s : Nat} (h : GuiltyP keys l s) : s < 10 := by
  obtain ⟨x, hx, y, hy, h1, h2, _⟩ := h
  have := h2.2.2.1.2.1
  omega

/-- The set of the signers of what is found. -/
def maskS : List ES → Nat
  | [] => 0
  | e :: r => 2 ^ e.1.1.signer.toNat ||| maskS r
theorem maskS_bit (i : Nat) : ∀ l : List ES, (maskS l).testBit i = true ↔ ∃ e ∈ l, e.1.1.signer.toNat = i
  | [] => by simp [maskS]
  | e :: r => by
    rw [maskS, Nat.testBit_or, Bool.or_eq_true, maskS_bit i r, Nat.testBit_two_pow]
    simp
theorem maskS_append : ∀ l l' : List ES, maskS (l ++ l') = maskS l ||| maskS l'
  | [], l' => by simp [maskS]
  | e :: r, l' => by rw [List.cons_append, maskS, maskS, maskS_append r l', Nat.or_assoc]
/-- Who is guilty. -/
def gltF (keys : List Nm) (l : List VS) : Nat := maskS (findS (cvS keys l) 10)
theorem findS_mem {c : List VS} {k : Nat} {e : ES} : e ∈ findS c k ↔ ∃ s, s < k ∧ firstS s c = some e := by
  unfold findS
  rw [List.mem_filterMap]
  constructor
  · rintro ⟨s, h1, h2⟩; exact ⟨s, List.mem_range.1 h1, h2⟩
  · rintro ⟨s, h1, h2⟩; exact ⟨s, List.mem_range.2 h1, h2⟩
theorem gltF_bit (keys : List Nm) (l : List VS) (i : Nat) : (gltF keys l).testBit i = true ↔ GuiltyP keys l i := by
  unfold gltF
  rw [maskS_bit]
  constructor
  · rintro ⟨e, he, hi⟩
    obtain ⟨s, hs, hf⟩ := findS_mem.1 he
    obtain ⟨_, _, h3, _⟩ := firstS_some hf
    have : s = i := by omega
    subst this
    exact (guilty_iff keys l s).1 (by rw [hf]; rfl)
  · intro h
    obtain ⟨e, he⟩ := Option.isSome_iff_exists.1 ((guilty_iff keys l i).2 h)
    obtain ⟨_, _, h3, _⟩ := firstS_some he
    exact ⟨e, findS_mem.2 ⟨i, h.lt, he⟩, by omega⟩
theorem gltF_lt (keys : List Nm) (l : List VS) : gltF keys l < 1024 := by
  refine Nat.lt_of_not_le fun h => ?_
  have : ∃ i, 10 ≤ i ∧ (gltF keys l).testBit i = true := Nat.exists_ge_and_testBit_of_ge_two_pow (n := 10) h
  obtain ⟨i, hi, hb⟩ := this
  have := ((gltF_bit keys l i).1 hb).lt
  omega
theorem gltF_congr {keys : List Nm} {l l' : List VS} (h : ∀ x, x ∈ l ↔ x ∈ l') : gltF keys l = gltF keys l' := by unfold gltF; rw [cvS_congr h]
/-- The signers of what is found ascend. -/
theorem findS_asc (c : List VS) (k : Nat) : (findS c k).Pairwise fun e f => e.1.1.signer < f.1.1.signer := by
  unfold findS
  rw [List.pairwise_filterMap]
  refine (List.pairwise_lt_range (n := k)).imp ?_
  intro a b hab e he f hf
  have h1 := (firstS_some he).2.2.1
  have h2 := (firstS_some hf).2.2.1
  omega
end Go.Proofs.YthmecidpjlaonaaGreat
