/-
  hash.Less, vote.SameKey and the reference's return what the document names, and change nothing that was there. No condition.
  vote.Conflict and the reference's return whether two votes are in conflict (ConfP), and change nothing that was there. Condition: the votes' numbers are int64's.
  vote.Less and the reference's return the order of two votes (lessV), and change nothing that was there. No condition.
-/
import Derived.Test.YthmecidpjlaonaaGreatHRVer
namespace Go.Proofs.YthmecidpjlaonaaGreat
open Go.RowKit

set_option maxRecDepth 100000 in
set_option maxHeartbeats 2000000 in
theorem same_any (a b : Vt) (w : World) : Calls Tryz.prog 104 #[a.val, b.val] w (BoolPost w (decide (SameP a b))) := by
  obtain ⟨k1, hk1⟩ : ∃ k, k = decide (a.kind = b.kind) := ⟨_, rfl⟩
  obtain ⟨k2, hk2⟩ : ∃ k, k = decide (a.parent = b.parent) := ⟨_, rfl⟩
  obtain ⟨k3, hk3⟩ : ∃ k, k = decide (a.slot = b.slot) := ⟨_, rfl⟩
  obtain ⟨k4, hk4⟩ : ∃ k, k = decide (a.round = b.round) := ⟨_, rfl⟩
  obtain ⟨k5, hk5⟩ : ∃ k, k = decide (a.signer = b.signer) := ⟨_, rfl⟩
  have hr : decide (SameP a b) = (k1 && (k2 && (k3 && (k4 && k5)))) := by
    rw [hk1, hk2, hk3, hk4, hk5, Bool.eq_iff_iff]; simp only [decide_eq_true_eq, Bool.and_eq_true]; exact Iff.rfl
  have e1 : (a.kind == b.kind) = k1 := by rw [hk1]; rfl
  have e2 : ∀ W, (Op.equalIn 10000 29 a.parent.val b.parent.val).run Tryz.prog W = .ok k2 W := fun W => by rw [hk2]; exact eqNm a.parent b.parent W 9998
  have e3 : (a.slot == b.slot) = k3 := by rw [hk3]; rfl
  have e4 : (a.round == b.round) = k4 := by rw [hk4]; rfl
  have e5 : (a.signer == b.signer) = k5 := by rw [hk5]; rfl
  have Hr := Lib.hid hr
  clear hk1 hk2 hk3 hk4 hk5 hr
  cases k1
  · go_enter Tryz.func104, Tryz.ntmps104
    go_wp2
    go_ret
    exact ⟨by rw [Hr.out]; rfl, ((Below.refl _ _).alloc (Nat.le_refl _) _).alloc (by simp) _⟩
  · skip
    cases k2
    · go_enter Tryz.func104, Tryz.ntmps104
      go_wp2
      go_ret
      exact ⟨by rw [Hr.out]; rfl, ((Below.refl _ _).alloc (Nat.le_refl _) _).alloc (by simp) _⟩
    · skip
      cases k3
      · go_enter Tryz.func104, Tryz.ntmps104
        go_wp2
        go_ret
        exact ⟨by rw [Hr.out]; rfl, ((Below.refl _ _).alloc (Nat.le_refl _) _).alloc (by simp) _⟩
      · skip
        cases k4
        · go_enter Tryz.func104, Tryz.ntmps104
          go_wp2
          go_ret
          exact ⟨by rw [Hr.out]; rfl, ((Below.refl _ _).alloc (Nat.le_refl _) _).alloc (by simp) _⟩
        · skip
          cases k5
          · go_enter Tryz.func104, Tryz.ntmps104
            go_wp2
            go_ret
            exact ⟨by rw [Hr.out]; rfl, ((Below.refl _ _).alloc (Nat.le_refl _) _).alloc (by simp) _⟩
          · go_enter Tryz.func104, Tryz.ntmps104
            go_wp2
            go_ret
            exact ⟨by rw [Hr.out]; rfl, ((Below.refl _ _).alloc (Nat.le_refl _) _).alloc (by simp) _⟩

attribute [local go_sem ↓] Go.wp_at_zero Go.wp_at_succ loadNm loadVt loadSg loadEv
attribute [local go_sem] runNm runVt runSg runEv pickRow_some rowAt_drew rowAt_drewN
set_option maxRecDepth 100000 in
set_option maxHeartbeats 2000000 in
theorem hless_ne (a b : Nm) (w : World) (hne : ¬ a = b) : Calls Tryz.prog 75 #[a.val, b.val] w (BoolPost w (lessN a b)) := by
  have e0 : ∀ W, (Op.equalIn 10000 29 a.val b.val).run Tryz.prog W = .ok false W := fun W => by
    have := eqNm a b W 9998
    rwa [decide_eq_false hne] at this
  have hA : Blk ((w.alloc (Obj.cells a.cells 29)).alloc (Obj.cells b.cells 29)) w.heap.size 29 a.cells := (Blk.new w _ _).alloc _
  have hB : Blk ((w.alloc (Obj.cells a.cells 29)).alloc (Obj.cells b.cells 29)) (w.heap.size + 1) 29 b.cells := by
    have := Blk.new (w.alloc (Obj.cells a.cells 29)) 29 b.cells
    simpa using this
  have hbW : Below w.heap.size w ((w.alloc (Obj.cells a.cells 29)).alloc (Obj.cells b.cells 29)) := ((Below.refl _ _).alloc (Nat.le_refl _) _).alloc (by simp) _
  have x0 := hA.row 8 rfl
  have y0 := hB.row 8 rfl
  go_enter Tryz.func75, Tryz.ntmps75
  go_wp2
  generalize ((w.alloc (Obj.cells a.cells 29)).alloc (Obj.cells b.cells 29)) = W at *
  obtain ⟨na, hna⟩ : ∃ n, n = numN a.bytes := ⟨_, rfl⟩
  obtain ⟨nb, hnb⟩ : ∃ n, n = numN b.bytes := ⟨_, rfl⟩
  have HA : Hid (∀ W, Calls Tryz.prog 122 #[a.val] W (NumPost W na)) := fun W => by rw [hna]; exact number_any a W
  have HB : Hid (∀ W, Calls Tryz.prog 122 #[b.val] W (NumPost W nb)) := fun W => by rw [hnb]; exact number_any b W
  have hr : lessN a b = decide (na < nb) := by rw [hna, hnb]; rfl
  have Hr := Lib.hid hr
  clear hr hna hnb
  go_region_held3 (fun w' => rowAt w' w.heap.size 0 8 = some a.cells ∧ rowAt w' (w.heap.size + 1) 0 8 = some b.cells) (first | exact ⟨x2, y2⟩ | exact ⟨x0, y0⟩)
    ((first
      | (go_at_call 122; (first | (with_reducible refine (HA.out _).mono ?_) | (with_reducible refine (HB.out _).mono ?_)); rintro en w2 ⟨rfl, hb2⟩; have hA2 : Blk w2 w.heap.size 29 a.cells := (by first | exact hA2.below hb2 hA2.lt | exact hA.drew.below hb2 hA.lt); have hB2 : Blk w2 (w.heap.size + 1) 29 b.cells := (by first | exact hB2.below hb2 hB2.lt | exact hB.drew.below hb2 hB.lt); have hbw2 : Below w.heap.size w w2 := (by first | exact hbw2.trans (hb2.mono hbw2.size) | exact hbW.trans (((Below.refl _ _).drew.trans hb2).mono hbW.size)); have x2 := hA2.row 8 rfl; have y2 := hB2.row 8 rfl)))
  all_goals
    go_wp2
    go_ret
    exact ⟨by rw [Hr.out]; exact ret_b (by simp), hbw2⟩

set_option maxRecDepth 100000 in
set_option maxHeartbeats 2000000 in
theorem hless_any (a b : Nm) (w : World) : Calls Tryz.prog 75 #[a.val, b.val] w (BoolPost w (lessN a b)) := by
  by_cases hne : a = b
  · subst hne
    have e0 : ∀ W, (Op.equalIn 10000 29 a.val a.val).run Tryz.prog W = .ok true W := fun W => by
      have := eqNm a a W 9998
      rwa [decide_eq_true rfl] at this
    have hr : lessN a a = false := by simp [lessN]
    have Hr := Lib.hid hr; clear hr
    have hA : Blk ((w.alloc (Obj.cells a.cells 29)).alloc (Obj.cells a.cells 29)) w.heap.size 29 a.cells := (Blk.new w _ _).alloc _
    have hB : Blk ((w.alloc (Obj.cells a.cells 29)).alloc (Obj.cells a.cells 29)) (w.heap.size + 1) 29 a.cells := by
      have := Blk.new (w.alloc (Obj.cells a.cells 29)) 29 a.cells
      simpa using this
    have x0 := hA.row 8 rfl
    have y0 := hB.row 8 rfl
    clear hA hB
    go_enter Tryz.func75, Tryz.ntmps75
    go_wp2
    go_ret
    exact ⟨by rw [Hr.out]; rfl, ((Below.refl _ _).alloc (Nat.le_refl _) _).alloc (by simp) _⟩
  · exact hless_ne a b w hne
end Go.Proofs.YthmecidpjlaonaaGreat
namespace Go.Proofs.YthmecidpjlaonaaGreat
open Go.RowKit
attribute [local go_sem ↓] Go.wp_at_zero Go.wp_at_succ loadNm loadVt loadSg loadEv
attribute [local go_sem] runNm runVt runSg runEv pickRow_some rowAt_drew rowAt_drewN
set_option maxRecDepth 100000 in
set_option maxHeartbeats 4000000 in
theorem conf_any (a b : Vt) (w : World) (ha : a.ok) (hb : b.ok) : Calls Tryz.prog 61 #[a.val, b.val] w (BoolPost w (decide (ConfP a b))) := by
  obtain ⟨k1, hk1⟩ : ∃ k, k = decide (a = b) := ⟨_, rfl⟩
  obtain ⟨k2, hk2⟩ : ∃ k, k = decide (SameP a b) := ⟨_, rfl⟩
  obtain ⟨k3, hk3⟩ : ∃ k, k = decide (ValidP a) := ⟨_, rfl⟩
  obtain ⟨k4, hk4⟩ : ∃ k, k = decide (ValidP b) := ⟨_, rfl⟩
  have hr : decide (ConfP a b) = (!k1 && (k2 && (k3 && k4))) := by
    rw [hk1, hk2, hk3, hk4, Bool.eq_iff_iff]; simp only [decide_eq_true_eq, Bool.and_eq_true, Bool.not_eq_true', decide_eq_false_iff_not]; exact Iff.rfl
  have e1 : ∀ W, (Op.equalIn 10000 31 (.agg a.cells) (.agg b.cells)).run Tryz.prog W = .ok k1 W := fun W => by rw [hk1]; exact eqVt a b W
  have HS : Hid (∀ W, Calls Tryz.prog 104 #[a.val, b.val] W (BoolPost W k2)) := fun W => by rw [hk2]; exact same_any a b W
  have HA : Hid (∀ W, Calls Tryz.prog 56 #[a.val] W (BoolPost W k3)) := fun W => by rw [hk3]; exact valid_any a W ha
  have HB : Hid (∀ W, Calls Tryz.prog 56 #[b.val] W (BoolPost W k4)) := fun W => by rw [hk4]; exact valid_any b W hb
  have Hr := Lib.hid hr
  clear hk1 hk2 hk3 hk4 hr ha hb
  have hA : Blk ((w.alloc (Obj.cells a.cells 31)).alloc (Obj.cells b.cells 31)) w.heap.size 31 a.cells := (Blk.new w _ _).alloc _
  have hB : Blk ((w.alloc (Obj.cells a.cells 31)).alloc (Obj.cells b.cells 31)) (w.heap.size + 1) 31 b.cells := by
    have := Blk.new (w.alloc (Obj.cells a.cells 31)) 31 b.cells
    simpa using this
  have hbW : Below w.heap.size w ((w.alloc (Obj.cells a.cells 31)).alloc (Obj.cells b.cells 31)) := ((Below.refl _ _).alloc (Nat.le_refl _) _).alloc (by simp) _
  have x0 := hA.row 22 rfl
  have y0 := hB.row 22 rfl
  by_cases g0 : k1 = true
  · subst g0
    go_enter Tryz.func61, Tryz.ntmps61
    go_wp2_with ((first | (go_at_call 104; refine (HS.out _).mono ?_) | (go_at_call 56; (first | (with_reducible refine (HA.out _).mono ?_) | (with_reducible refine (HB.out _).mono ?_)))); rintro en w2 ⟨rfl, hb2⟩; have hA2 : Blk w2 w.heap.size 31 a.cells := (by first | exact hA2.below hb2 hA2.lt | exact hA.below hb2 hA.lt); have hB2 : Blk w2 (w.heap.size + 1) 31 b.cells := (by first | exact hB2.below hb2 hB2.lt | exact hB.below hb2 hB.lt); have hbw2 : Below w.heap.size w w2 := (by first | exact hbw2.trans (hb2.mono hbw2.size) | exact hbW.trans (hb2.mono hbW.size)); have x2 := hA2.row 22 rfl; have y2 := hB2.row 22 rfl)
    go_ret
    exact ⟨by rw [Hr.out]; simp, by first | exact hbw2 | exact hbW⟩
  · obtain rfl : k1 = false := by simpa using g0
    clear g0
    by_cases g1 : k2 = false
    · subst g1
      go_enter Tryz.func61, Tryz.ntmps61
      go_wp2_with ((first | (go_at_call 104; refine (HS.out _).mono ?_) | (go_at_call 56; (first | (with_reducible refine (HA.out _).mono ?_) | (with_reducible refine (HB.out _).mono ?_)))); rintro en w2 ⟨rfl, hb2⟩; have hA2 : Blk w2 w.heap.size 31 a.cells := (by first | exact hA2.below hb2 hA2.lt | exact hA.below hb2 hA.lt); have hB2 : Blk w2 (w.heap.size + 1) 31 b.cells := (by first | exact hB2.below hb2 hB2.lt | exact hB.below hb2 hB.lt); have hbw2 : Below w.heap.size w w2 := (by first | exact hbw2.trans (hb2.mono hbw2.size) | exact hbW.trans (hb2.mono hbW.size)); have x2 := hA2.row 22 rfl; have y2 := hB2.row 22 rfl)
      go_ret
      exact ⟨by rw [Hr.out]; simp, by first | exact hbw2 | exact hbW⟩
    · obtain rfl : k2 = true := by simpa using g1
      clear g1
      by_cases g2 : k3 = false
      · subst g2
        go_enter Tryz.func61, Tryz.ntmps61
        go_wp2_with ((first | (go_at_call 104; refine (HS.out _).mono ?_) | (go_at_call 56; (first | (with_reducible refine (HA.out _).mono ?_) | (with_reducible refine (HB.out _).mono ?_)))); rintro en w2 ⟨rfl, hb2⟩; have hA2 : Blk w2 w.heap.size 31 a.cells := (by first | exact hA2.below hb2 hA2.lt | exact hA.below hb2 hA.lt); have hB2 : Blk w2 (w.heap.size + 1) 31 b.cells := (by first | exact hB2.below hb2 hB2.lt | exact hB.below hb2 hB.lt); have hbw2 : Below w.heap.size w w2 := (by first | exact hbw2.trans (hb2.mono hbw2.size) | exact hbW.trans (hb2.mono hbW.size)); have x2 := hA2.row 22 rfl; have y2 := hB2.row 22 rfl)
        go_ret
        exact ⟨by rw [Hr.out]; simp, by first | exact hbw2 | exact hbW⟩
      · obtain rfl : k3 = true := by simpa using g2
        clear g2
        by_cases g3 : k4 = false
        · subst g3
          go_enter Tryz.func61, Tryz.ntmps61
          go_wp2_with ((first | (go_at_call 104; refine (HS.out _).mono ?_) | (go_at_call 56; (first | (with_reducible refine (HA.out _).mono ?_) | (with_reducible refine (HB.out _).mono ?_)))); rintro en w2 ⟨rfl, hb2⟩; have hA2 : Blk w2 w.heap.size 31 a.cells := (by first | exact hA2.below hb2 hA2.lt | exact hA.below hb2 hA.lt); have hB2 : Blk w2 (w.heap.size + 1) 31 b.cells := (by first | exact hB2.below hb2 hB2.lt | exact hB.below hb2 hB.lt); have hbw2 : Below w.heap.size w w2 := (by first | exact hbw2.trans (hb2.mono hbw2.size) | exact hbW.trans (hb2.mono hbW.size)); have x2 := hA2.row 22 rfl; have y2 := hB2.row 22 rfl)
          go_ret
          exact ⟨by rw [Hr.out]; simp, by first | exact hbw2 | exact hbW⟩
        · obtain rfl : k4 = true := by simpa using g3
          clear g3
          go_enter Tryz.func61, Tryz.ntmps61
          go_wp2_with ((first | (go_at_call 104; refine (HS.out _).mono ?_) | (go_at_call 56; (first | (with_reducible refine (HA.out _).mono ?_) | (with_reducible refine (HB.out _).mono ?_)))); rintro en w2 ⟨rfl, hb2⟩; have hA2 : Blk w2 w.heap.size 31 a.cells := (by first | exact hA2.below hb2 hA2.lt | exact hA.below hb2 hA.lt); have hB2 : Blk w2 (w.heap.size + 1) 31 b.cells := (by first | exact hB2.below hb2 hB2.lt | exact hB.below hb2 hB.lt); have hbw2 : Below w.heap.size w w2 := (by first | exact hbw2.trans (hb2.mono hbw2.size) | exact hbW.trans (hb2.mono hbW.size)); have x2 := hA2.row 22 rfl; have y2 := hB2.row 22 rfl)
          go_ret
          exact ⟨by rw [Hr.out]; simp, by first | exact hbw2 | exact hbW⟩

end Go.Proofs.YthmecidpjlaonaaGreat
namespace Go.Proofs.YthmecidpjlaonaaGreat
open Go.RowKit
attribute [local go_sem ↓] Go.wp_at_zero Go.wp_at_succ loadNm loadVt loadSg loadEv
attribute [local go_sem] runNm runVt runSg runEv pickRow_some rowAt_drew rowAt_drewN
def five (v : Vt) : List Int := [v.slot, v.round, v.kind, v.signer, v.choice]
theorem five_cell (v : Vt) (k : Nat) (h : k < 5) : (#[I v.slot, I v.round, I v.kind, I v.signer, I v.choice] : Array Value)[k]? = some (I ((five v).getD k 0)) := by
  rcases (by omega : k = 0 ∨ k = 1 ∨ k = 2 ∨ k = 3 ∨ k = 4) with rfl | rfl | rfl | rfl | rfl <;> rfl
theorem lessV_at (a b : Vt) (k : Nat) (hk : k < 5) (hp : a.parent = b.parent) (h : ∀ j, j < k → (five a).getD j 0 = (five b).getD j 0) (hne : ¬ (five a).getD k 0 = (five b).getD k 0) :
    lessV a b = decide ((five a).getD k 0 < (five b).getD k 0) := by
  have h0 : 0 < k → a.slot = b.slot := fun hh => h 0 hh
  have h1 : 1 < k → a.round = b.round := fun hh => h 1 hh
  have h2 : 2 < k → a.kind = b.kind := fun hh => h 2 hh
  have h3 : 3 < k → a.signer = b.signer := fun hh => h 3 hh
  clear h
  unfold lessV
  rw [if_pos hp]
  rcases (by omega : k = 0 ∨ k = 1 ∨ k = 2 ∨ k = 3 ∨ k = 4) with rfl | rfl | rfl | rfl | rfl
  · have hne' : ¬ a.slot = b.slot := hne
    rw [if_neg hne']; rfl
  · have hne' : ¬ a.round = b.round := hne
    rw [if_pos (h0 (by omega)), if_neg hne']; rfl
  · have hne' : ¬ a.kind = b.kind := hne
    rw [if_pos (h0 (by omega)), if_pos (h1 (by omega)), if_neg hne']; rfl
  · have hne' : ¬ a.signer = b.signer := hne
    rw [if_pos (h0 (by omega)), if_pos (h1 (by omega)), if_pos (h2 (by omega)), if_neg hne']; rfl
  · have hne' : ¬ a.choice = b.choice := hne
    rw [if_pos (h0 (by omega)), if_pos (h1 (by omega)), if_pos (h2 (by omega)), if_pos (h3 (by omega)), if_neg hne']; rfl
theorem lessV_end (a b : Vt) (hp : a.parent = b.parent) (h : ∀ j, j < 5 → (five a).getD j 0 = (five b).getD j 0) :
    lessV a b = if a.value = b.value then decide (a.support < b.support) else lessN a.value b.value := by
  have h0 : a.slot = b.slot := h 0 (by omega)
  have h1 : a.round = b.round := h 1 (by omega)
  have h2 : a.kind = b.kind := h 2 (by omega)
  have h3 : a.signer = b.signer := h 3 (by omega)
  have h4 : a.choice = b.choice := h 4 (by omega)
  unfold lessV
  rw [if_pos hp, if_pos h0, if_pos h1, if_pos h2, if_pos h3, if_pos h4]
theorem Vt.row_parent {w : World} {g t : Nat} (v : Vt) (h : Blk w g t v.cells) : rowAt w g 6 8 = some v.parent.cells :=
  Blk.part h 6 v.parent.cells (fun j u hu => by
    have hj : j < 8 := (Array.getElem?_eq_some_iff.1 hu).1
    rcases (by omega : j = 0 ∨ j = 1 ∨ j = 2 ∨ j = 3 ∨ j = 4 ∨ j = 5 ∨ j = 6 ∨ j = 7) with rfl | rfl | rfl | rfl | rfl | rfl | rfl | rfl <;> exact hu)
theorem Vt.row_value {w : World} {g t : Nat} (v : Vt) (h : Blk w g t v.cells) : rowAt w g 14 8 = some v.value.cells :=
  Blk.part h 14 v.value.cells (fun j u hu => by
    have hj : j < 8 := (Array.getElem?_eq_some_iff.1 hu).1
    rcases (by omega : j = 0 ∨ j = 1 ∨ j = 2 ∨ j = 3 ∨ j = 4 ∨ j = 5 ∨ j = 6 ∨ j = 7) with rfl | rfl | rfl | rfl | rfl | rfl | rfl | rfl <;> exact hu)

set_option maxRecDepth 100000 in
set_option maxHeartbeats 4000000 in
theorem vless_ne (a b : Vt) (w : World) (hp : ¬ a.parent = b.parent) : Calls Tryz.prog 46 #[a.val, b.val] w (BoolPost w (lessV a b)) := by
  have e1 : ∀ W, (Op.equalIn 10000 29 a.parent.val b.parent.val).run Tryz.prog W = .ok false W := fun W => by
    have := eqNm a.parent b.parent W 9998
    rwa [decide_eq_false hp] at this
  have hr : lessV a b = lessN a.parent b.parent := by unfold lessV; rw [if_neg hp]
  have Hr := Lib.hid hr; clear hr hp
  have hA : Blk ((w.alloc (Obj.cells a.cells 31)).alloc (Obj.cells b.cells 31)) w.heap.size 31 a.cells := (Blk.new w _ _).alloc _
  have hB : Blk ((w.alloc (Obj.cells a.cells 31)).alloc (Obj.cells b.cells 31)) (w.heap.size + 1) 31 b.cells := by
    have := Blk.new (w.alloc (Obj.cells a.cells 31)) 31 b.cells
    simpa using this
  have hbW : Below w.heap.size w ((w.alloc (Obj.cells a.cells 31)).alloc (Obj.cells b.cells 31)) := ((Below.refl _ _).alloc (Nat.le_refl _) _).alloc (by simp) _
  have x0 := a.row_parent hA
  have y0 := b.row_parent hB
  go_enter Tryz.func46, Tryz.ntmps46
  go_wp2_with fail
  refine (hless_any a.parent b.parent _).mono ?_
  rintro en w2 ⟨rfl, hb2⟩
  go_wp2
  go_ret
  exact ⟨by rw [Hr.out]; rfl, hbW.trans (hb2.mono hbW.size)⟩

set_option maxRecDepth 100000 in
set_option maxHeartbeats 4000000 in
theorem vless_eq (a b : Vt) (w : World) (hp : a.parent = b.parent) : Calls Tryz.prog 46 #[a.val, b.val] w (BoolPost w (lessV a b)) := by
  have e1 : ∀ W, (Op.equalIn 10000 29 a.parent.val b.parent.val).run Tryz.prog W = .ok true W := fun W => by
    have := eqNm a.parent b.parent W 9998
    rwa [decide_eq_true hp] at this
  have Hp := Lib.hid hp; clear hp
  have hA : Blk ((w.alloc (Obj.cells a.cells 31)).alloc (Obj.cells b.cells 31)) w.heap.size 31 a.cells := (Blk.new w _ _).alloc _
  have hB : Blk ((w.alloc (Obj.cells a.cells 31)).alloc (Obj.cells b.cells 31)) (w.heap.size + 1) 31 b.cells := by
    have := Blk.new (w.alloc (Obj.cells a.cells 31)) 31 b.cells
    simpa using this
  have hbW : Below w.heap.size w ((w.alloc (Obj.cells a.cells 31)).alloc (Obj.cells b.cells 31)) := ((Below.refl _ _).alloc (Nat.le_refl _) _).alloc (by simp) _
  have x0 := a.row_parent hA
  have y0 := b.row_parent hB
  clear hA hB hbW
  go_enter Tryz.func46, Tryz.ntmps46
  go_wp2_with fail
  clear x0 y0 e1
  have hA : Blk ((((w.alloc (Obj.cells a.cells 31)).alloc (Obj.cells b.cells 31)).alloc (Obj.cells #[I a.slot, I a.round, I a.kind, I a.signer, I a.choice] 109)).alloc (Obj.cells #[I b.slot, I b.round, I b.kind, I b.signer, I b.choice] 109)) w.heap.size 31 a.cells := (((Blk.new w _ _).alloc _).alloc _).alloc _
  have hB : Blk ((((w.alloc (Obj.cells a.cells 31)).alloc (Obj.cells b.cells 31)).alloc (Obj.cells #[I a.slot, I a.round, I a.kind, I a.signer, I a.choice] 109)).alloc (Obj.cells #[I b.slot, I b.round, I b.kind, I b.signer, I b.choice] 109)) (w.heap.size + 1) 31 b.cells := by
    have := ((Blk.new (w.alloc (Obj.cells a.cells 31)) 31 b.cells).alloc (Obj.cells #[I a.slot, I a.round, I a.kind, I a.signer, I a.choice] 109)).alloc (Obj.cells #[I b.slot, I b.round, I b.kind, I b.signer, I b.choice] 109)
    simpa using this
  have hX : Blk ((((w.alloc (Obj.cells a.cells 31)).alloc (Obj.cells b.cells 31)).alloc (Obj.cells #[I a.slot, I a.round, I a.kind, I a.signer, I a.choice] 109)).alloc (Obj.cells #[I b.slot, I b.round, I b.kind, I b.signer, I b.choice] 109)) (w.heap.size + 1 + 1) 109 #[I a.slot, I a.round, I a.kind, I a.signer, I a.choice] := by
    have := (Blk.new ((w.alloc (Obj.cells a.cells 31)).alloc (Obj.cells b.cells 31)) 109 #[I a.slot, I a.round, I a.kind, I a.signer, I a.choice]).alloc (Obj.cells #[I b.slot, I b.round, I b.kind, I b.signer, I b.choice] 109)
    simpa using this
  have hY : Blk ((((w.alloc (Obj.cells a.cells 31)).alloc (Obj.cells b.cells 31)).alloc (Obj.cells #[I a.slot, I a.round, I a.kind, I a.signer, I a.choice] 109)).alloc (Obj.cells #[I b.slot, I b.round, I b.kind, I b.signer, I b.choice] 109)) (w.heap.size + 1 + 1 + 1) 109 #[I b.slot, I b.round, I b.kind, I b.signer, I b.choice] := by
    have := Blk.new (((w.alloc (Obj.cells a.cells 31)).alloc (Obj.cells b.cells 31)).alloc (Obj.cells #[I a.slot, I a.round, I a.kind, I a.signer, I a.choice] 109)) 109 #[I b.slot, I b.round, I b.kind, I b.signer, I b.choice]
    simpa using this
  have hbW : Below w.heap.size w ((((w.alloc (Obj.cells a.cells 31)).alloc (Obj.cells b.cells 31)).alloc (Obj.cells #[I a.slot, I a.round, I a.kind, I a.signer, I a.choice] 109)).alloc (Obj.cells #[I b.slot, I b.round, I b.kind, I b.signer, I b.choice] 109)) := ((((Below.refl _ _).alloc (Nat.le_refl _) _).alloc (by simp) _).alloc (by simp; omega) _).alloc (by simp; omega) _
  generalize ((((w.alloc (Obj.cells a.cells 31)).alloc (Obj.cells b.cells 31)).alloc (Obj.cells #[I a.slot, I a.round, I a.kind, I a.signer, I a.choice] 109)).alloc (Obj.cells #[I b.slot, I b.round, I b.kind, I b.signer, I b.choice] 109)) = W at *
  go_loopw [40] (fun i wr => ∃ k n : Nat, k ≤ 5 ∧ i = .int .i64 k ∧ wr = W.drewN n ∧ ∀ j, j < k → (five a).getD j 0 = (five b).getD j 0) (fun i _ => 5 - (intOf i).toNat)
  case atStart => exact ⟨0, 0, by omega, rfl, rfl, fun j hj => by omega⟩
  case round =>
    obtain ⟨k, n, hk, rfl, rfl, heq⟩ := hrel
    have Heq := Lib.hid heq; clear heq
    by_cases hlt : k < 5
    · have c1 : W.cell? ⟨w.heap.size + 1 + 1, k, none⟩ = some (I ((five a).getD k 0)) := (hX.cell k).trans (five_cell a k hlt)
      have c2 : W.cell? ⟨w.heap.size + 1 + 1 + 1, k, none⟩ = some (I ((five b).getD k 0)) := (hY.cell k).trans (five_cell b k hlt)
      have i1 : (0 : Int) ≤ (k : Int) := by omega
      have i2 : (k : Int) < 5 := by omega
      by_cases hne : (five a).getD k 0 = (five b).getD k 0
      · have E : Hid (∀ j, j < k + 1 → (five a).getD j 0 = (five b).getD j 0) := fun j hj => by
          rcases Nat.lt_or_ge j k with h | h
          · exact Heq.out j h
          · obtain rfl : j = k := by omega
            exact hne
        have hb : (((five a).getD k 0) != ((five b).getD k 0)) = false := by rw [hne]; exact bne_self_eq_false _
        clear hne
        generalize (five a).getD k 0 = x at *
        generalize (five b).getD k 0 = y at *
        go_wp2
        go_quiet (fail)
        go_wp2
        go_roundw
        case rel => exact ⟨k + 1, _, by omega, by go_num, rfl, E.out⟩
        case measure => simp [intOf]; omega
      · have hr := lessV_at a b k hlt Hp.out Heq.out hne
        have Hr := Lib.hid hr
        have hb : (((five a).getD k 0) != ((five b).getD k 0)) = true := by simpa using hne
        clear hne hr
        generalize (five a).getD k 0 = x at *
        generalize (five b).getD k 0 = y at *
        go_wp2
        go_quiet (fail)
        go_wp2
        go_quiet (fail)
        go_wp2
        go_ret
        exact ⟨by rw [Hr.out]; rfl, below_drewN (below_drewN (below_drewN hbW _) _) _⟩
    · obtain rfl : k = 5 := by omega
      have hr := lessV_end a b Hp.out Heq.out
      have x0 := a.row_value hA
      have y0 := b.row_value hB
      have s1 : W.cell? ⟨w.heap.size, 5, none⟩ = some (I a.support) := hA.cell 5
      have s2 : W.cell? ⟨w.heap.size + 1, 5, none⟩ = some (I b.support) := hB.cell 5
      by_cases hv : a.value = b.value
      · have e2 : ∀ W, (Op.equalIn 10000 29 a.value.val b.value.val).run Tryz.prog W = .ok true W := fun W => by
          have := eqNm a.value b.value W 9998
          rwa [decide_eq_true hv] at this
        rw [if_pos hv] at hr
        have Hr := Lib.hid hr; clear hr hv
        go_wp2
        go_ret
        exact ⟨by rw [Hr.out]; rfl, below_drewN hbW _⟩
      · have e2 : ∀ W, (Op.equalIn 10000 29 a.value.val b.value.val).run Tryz.prog W = .ok false W := fun W => by
          have := eqNm a.value b.value W 9998
          rwa [decide_eq_false hv] at this
        rw [if_neg hv] at hr
        have Hr := Lib.hid hr; clear hr hv
        go_wp2_with fail
        refine (hless_any a.value b.value _).mono ?_
        rintro en w2 ⟨rfl, hb2⟩
        have hbw := below_drewN hbW n
        go_wp2
        go_ret
        exact ⟨by rw [Hr.out]; rfl, hbw.trans (hb2.mono hbw.size)⟩
theorem vless_any (a b : Vt) (w : World) : Calls Tryz.prog 46 #[a.val, b.val] w (BoolPost w (lessV a b)) := by
  by_cases hp : a.parent = b.parent
  · exact vless_eq a b w hp
  · exact vless_ne a b w hp

end Go.Proofs.YthmecidpjlaonaaGreat
