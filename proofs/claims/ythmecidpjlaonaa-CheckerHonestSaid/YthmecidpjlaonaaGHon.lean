/-
  Plain mathematics of the law CheckerHonest, and the reference's Has. No condition.
  The law CheckerHonest returns true and changes nothing that was there. Condition: its arguments lie in memory below the call.
-/
import Derived.Test.YthmecidpjlaonaaGExh
namespace Go.Proofs.Ythmecidpjlaonaa
open Go.RowKit

abbrev vtc (v : Vt) : List Value := v.cells.toList
theorem vtc_len (l : List Vt) : ∀ v ∈ l, (vtc v).length = 22 := fun _ _ => rfl
/-- Vote k of a row of votes that is read. -/
theorem Rd.voteRow {w : World} {B' b o : Nat} {l : List Vt} {k : Nat} {v : Vt} (h : Rd w B' (some ⟨b, o, none⟩) (l.flatMap vtc)) (hk : l[k]? = some v) : rowAt w b (o + k * 22) 22 = some v.cells := by
  have hpos := (List.getElem?_eq_some_iff.1 hk).1
  rcases h with h | ⟨b', o', e, hb, hc⟩
  · have := flat_length vtc 22 l (vtc_len l)
    rw [h] at this
    simp at this; omega
  · injection e with e
    injection e with e1 e2
    subst e1; subst e2
    refine rowAt_of (fun j u hu => ?_) rfl
    have hj : j < 22 := by
      have := (List.getElem?_eq_some_iff.1 hu).1
      simpa using this
    rw [Nat.add_assoc]
    refine hc _ u ?_
    rw [flat_get vtc 22 l (vtc_len l) k j v hk hj, ← hu]

/-- Bit i of a set. -/
def hasB (m : Nat) (i : Int) : Bool := decide (0 ≤ i) && (decide (i < 10) && m.testBit i.toNat)
theorem testBit_and (m s : Nat) : (m / 2 ^ s % 2 == 1) = m.testBit s := by
  rw [Nat.testBit_eq_decide_div_mod_eq]; rfl
theorem checkL_nat (keys : List Nm) : ∀ (k : Nat) (l : List UInt8) (before : Int) (m : Nat) (M : Int), checkL keys k l before m = (M, 0) → m < 1024 → ∃ q : Nat, M = (q : Int) ∧ q < 1024
  | 0, l, before, m, M, h, hm => by
    rw [checkL] at h
    exact ⟨m, (congrArg Prod.fst h).symm, hm⟩
  | k + 1, l, before, m, M, h, hm => by
    rw [checkL] at h
    by_cases hz : elemF keys l before = 0
    · rw [if_pos hz] at h
      obtain ⟨hz1, hz2, hf⟩ := elemF_zero hz
      have hb := (faultF_zero hf).1.2.2.1.bounds.2.2.2.2.1
      exact checkL_nat keys k _ _ _ M h (or_lt10 m _ hm (by omega))
    · rw [if_neg hz] at h
      exact absurd (congrArg Prod.snd h) hz
/-- A bit of the answer comes from an element, or was there. -/
theorem checkL_bit (keys : List Nm) (i : Nat) : ∀ (k : Nat) (l : List UInt8) (before : Int) (m : Nat) (M : Nat), checkL keys k l before m = ((M : Int), 0) → M.testBit i = true → m.testBit i = false →
    ∃ j, j < k ∧ (voteA (l.drop (786 * j))).1.signer = (i : Int)
  | 0, l, before, m, M, h, h1, h2 => by
    rw [checkL] at h
    have := congrArg Prod.fst h
    simp at this
    have e : m = M := by omega
    subst e
    rw [h1] at h2; cases h2
  | k + 1, l, before, m, M, h, h1, h2 => by
    rw [checkL] at h
    by_cases hz : elemF keys l before = 0
    · rw [if_pos hz] at h
      obtain ⟨hz1, hz2, hf⟩ := elemF_zero hz
      obtain ⟨sn, hsn⟩ := Int.eq_ofNat_of_zero_le (faultF_zero hf).1.2.2.1.bounds.2.2.2.2.1.1
      by_cases hs : sn = i
      · exact ⟨0, by omega, by simpa [hs] using hsn⟩
      · rw [hsn] at h
        have hb : (m ||| 2 ^ ((sn : Int)).toNat).testBit i = false := by
          rw [Nat.testBit_or, h2, Bool.false_or, Int.toNat_natCast, Nat.testBit_two_pow]
          simpa using hs
        obtain ⟨j, hj, he⟩ := checkL_bit keys i k _ _ _ M h h1 hb
        refine ⟨j + 1, by omega, ?_⟩
        rw [List.drop_drop] at he
        rw [show 786 * (j + 1) = 786 + 786 * j from by omega]
        exact he
    · rw [if_neg hz] at h
      exact absurd (congrArg Prod.snd h) hz
end Go.Proofs.Ythmecidpjlaonaa
namespace Go.Proofs.Ythmecidpjlaonaa
open Go.RowKit
attribute [local go_sem ↓] Go.wp_at_zero Go.wp_at_succ loadNm loadVt loadSg loadEv
attribute [local go_sem] runNm runVt runSg runEv pickRow_some rowAt_drew rowAt_drewN

theorem i64_and1 (n : Nat) (hn : n ≤ 1000000) : bits .and .i64 (n : Int) 1 = ((n % 2 : Nat) : Int) := by
  show IntKind.i64.wrap ((BitVec.ofInt 64 (n : Int) &&& BitVec.ofInt 64 1).toNat : Int) = _
  rw [BitVec.toNat_and, BitVec.ofInt_natCast, BitVec.toNat_ofNat, Nat.mod_eq_of_lt (by omega), show (BitVec.ofInt 64 1).toNat = 2 ^ 1 - 1 from rfl, Nat.and_two_pow_sub_one_eq_mod, IntKind.wrap_i64]
  omega
theorem has_val (m i : Nat) (hm : m < 1024) (hi : i ≤ 9) : (bits .and .i64 ((m : Int) / ((2 ^ i : Nat) : Int)) 1 == 1) = hasB m (i : Int) := by
  have e : (m : Int) / ((2 ^ i : Nat) : Int) = ((m / 2 ^ i : Nat) : Int) := by simp
  have hle : m / 2 ^ i ≤ m := Nat.div_le_self _ _
  rw [e, i64_and1 _ (by omega)]
  have h1 : hasB m (i : Int) = m.testBit i := by
    unfold hasB
    rw [decide_eq_true (show (0 : Int) ≤ (i : Int) by omega), decide_eq_true (show (i : Int) < 10 by omega)]
    rfl
  rw [h1, ← testBit_and]
  rw [Bool.eq_iff_iff, beq_iff_eq, beq_iff_eq]
  omega
set_option maxRecDepth 100000 in
set_option maxHeartbeats 1000000 in
theorem has_any (m : Nat) (id : Int) (w : World) (hm : m < 1024) : Calls Try.prog 30 #[.int .i64 (m : Int), .int .i64 id] w fun e w' => e = .returned (.bool (hasB m id)) ∧ w' = w := by
  by_cases h0 : 0 ≤ id
  · by_cases h1 : id < 10
    · obtain ⟨i, rfl⟩ := Int.eq_ofNat_of_zero_le h0
      have hi : i ≤ 9 := by omega
      have hv := has_val m i hm hi
      clear h0 h1
      rcases (by omega : i = 0 ∨ i = 1 ∨ i = 2 ∨ i = 3 ∨ i = 4 ∨ i = 5 ∨ i = 6 ∨ i = 7 ∨ i = 8 ∨ i = 9) with rfl | rfl | rfl | rfl | rfl | rfl | rfl | rfl | rfl | rfl
      all_goals
        have HV := Lib.hid hv
        clear hv hi
        go_enter Try.func30, Try.ntmps30
        go_wp2
        go_ret
        exact ⟨ret_b (by first | exact HV.out | simpa using HV.out), rfl⟩
    · have hr : hasB m id = false := by unfold hasB; rw [decide_eq_false h1]; simp
      have HR := Lib.hid hr; clear hr
      have d1 : decide (0 ≤ id) = true := by simpa using h0
      have d2 : decide (id < 10) = false := by simpa using h1
      go_enter Try.func30, Try.ntmps30
      go_wp2
      go_ret
      exact ⟨by rw [HR.out]; rfl, rfl⟩
  · have hr : hasB m id = false := by unfold hasB; rw [decide_eq_false h0]; simp
    have HR := Lib.hid hr; clear hr
    have d1 : decide (0 ≤ id) = false := by simpa using h0
    go_enter Try.func30, Try.ntmps30
    go_wp2
    go_ret
    exact ⟨by rw [HR.out]; rfl, rfl⟩

set_option maxRecDepth 100000 in
theorem hon_big (K A V : Option Addr) (nk ck n c nv cv : Nat) (id : Int) (w : World) (hv : 200 < nv) :
    Calls Try.prog 6 #[.slice K nk ck, .slice A n c, .int .i64 id, .slice V nv cv] w (BoolPost w true) := by
  have d : decide ((200 : Int) < (nv : Int)) = true := by simp; omega
  go_enter Try.func6, Try.ntmps6
  go_wp2_with ((go_at_call 21; refine (awake10_any _).mono ?_; rintro en w2 ⟨rfl, hb2⟩))
  go_ret
  exact ⟨rfl, hb2⟩

/-- Where the law stands in its first loop. -/
def HonRel1 (own : List Vt) (w : World) (nv : Nat) (g : Value) (wr : World) : Prop :=
  ∃ i : Nat, i ≤ nv ∧ g = .int .i64 (i : Int) ∧ (∀ a b, a < i → b < a → ¬ ConfP (own.getD a zeroV) (own.getD b zeroV)) ∧ Below w.heap.size w wr
def HonRel2 (own : List Vt) (w : World) (i : Nat) (g : Value) (wr : World) : Prop :=
  ∃ k : Nat, k ≤ i ∧ g = .int .i64 (k : Int) ∧ (∀ b, b < k → ¬ ConfP (own.getD i zeroV) (own.getD b zeroV)) ∧ Below w.heap.size w wr
def HonRel3 (keys : List Nm) (p : List UInt8) (w : World) (n : Nat) (id M : Int) (g : Value) (wr : World) : Prop :=
  ∃ (k at_ : Nat) (before : Int) (m : Nat), g = .int .i64 (at_ : Int) ∧ at_ + k * 786 = n ∧ 1 ≤ at_ ∧ k ≤ 10 ∧ checkL keys k (p.drop at_) before m = (M, 0) ∧ (∃ j, j < k ∧ (voteA ((p.drop at_).drop (786 * j))).1.signer = id) ∧ Below w.heap.size w wr
def HonRel4 (own : List Vt) (w : World) (nv : Nat) (va vb : Vt) (E : Ev) (g : Nat) (x y z : Value) (wr : World) : Prop :=
  ∃ (i : Nat) (ca cb : Bool), i ≤ nv ∧ z = .int .i64 (i : Int) ∧ x = .bool ca ∧ y = .bool cb ∧ (ca = true → ∃ t, t < i ∧ own.getD t zeroV = va) ∧ (cb = true → ∃ t, t < i ∧ own.getD t zeroV = vb) ∧ Blk wr g 45 E.cells ∧ Below w.heap.size w wr

set_option maxRecDepth 100000 in
set_option maxHeartbeats 8000000 in
theorem hon_core (K A V : Option Addr) (nk ck n c nv cv : Nat) (id : Int) (keys : List Nm) (p : List UInt8) (own : List Vt) (w : World) (hnk : keys.length = nk) (hn : p.length = n) (hnv : own.length = nv) (hv : nv ≤ 200)
    (hK : Rd w w.heap.size K (keys.flatMap nmc)) (hr : Rd w w.heap.size A (p.map B)) (hV : Rd w w.heap.size V (own.flatMap vtc)) (hok : ∀ v ∈ own, v.ok) (hc : n ≤ c) (hm : c ≤ maxLen) (r : Int × Int) (hres : checkF keys p = r)
    (hcheck : ∀ W, Below w.heap.size w W → Calls Try.prog 22 #[.slice K nk ck, .slice A n c] W (CheckPost W r)) :
    Calls Try.prog 6 #[.slice K nk ck, .slice A n c, .int .i64 id, .slice V nv cv] w (BoolPost w true) := by
  have HNK := Lib.hid hnk; clear hnk
  have HN := Lib.hid hn; clear hn
  have HNV := Lib.hid hnv; clear hnv
  have HK := Lib.hid hK; clear hK
  have HR := Lib.hid hr; clear hr
  have HV := Lib.hid hV; clear hV
  have HOK := Lib.hid hok; clear hok
  have HRes := Lib.hid hres; clear hres
  have HC := Lib.hid hcheck; clear hcheck
  have HCM : Hid (n ≤ c ∧ c ≤ maxLen) := ⟨hc, hm⟩
  clear hc hm
  have d : decide ((200 : Int) < (nv : Int)) = false := by simp; omega
  go_enter Try.func6, Try.ntmps6
  go_wp2
  clear d
  go_loopw [9] (fun g wr => HonRel1 own w nv g wr) (fun g _ => nv - (intOf g).toNat)
  case atStart => exact ⟨0, by omega, rfl, fun a b h => by omega, Below.refl _ _⟩
  case round =>
    obtain ⟨i, hi, rfl, hno, hbw⟩ := hrel
    have HNo := Lib.hid hno; clear hno
    by_cases hlt : i < nv
    · go_wp2
      obtain ⟨wo, hwo⟩ : ∃ wo : World, wo = wr := ⟨_, rfl⟩
      subst hwo
      go_loopw [10] (fun g wr => HonRel2 own w i g wr) (fun g _ => i - (intOf g).toNat)
      case atStart => exact ⟨0, by omega, rfl, fun b h => by omega, hbw⟩
      case round =>
        clear hbw
        obtain ⟨k, hk, rfl, hno2, hbw⟩ := hrel
        have HNo2 := Lib.hid hno2; clear hno2
        by_cases hlk : k < i
        · have hx := getD_some zeroV (l := own) (k := i) (by rw [HNV.out]; exact hlt)
          have hy := getD_some zeroV (l := own) (k := k) (by rw [HNV.out]; omega)
          obtain ⟨b, o, hVe, _, _⟩ := HV.out.cells (by
            intro e
            have := flat_length vtc 22 own (vtc_len own)
            rw [e] at this
            have h2 := HNV.out
            simp at this; omega)
          subst hVe
          have HRow1 : Hid (∀ W, Below w.heap.size w W → rowAt W b (o + i * 22) 22 = some (own.getD i zeroV).cells) := fun W hW => (HV.out.below hW).voteRow hx
          have HRow2 : Hid (∀ W, Below w.heap.size w W → rowAt W b (o + k * 22) 22 = some (own.getD k zeroV).cells) := fun W hW => (HV.out.below hW).voteRow hy
          obtain ⟨kc, hkc⟩ : ∃ kc, kc = decide (ConfP (own.getD i zeroV) (own.getD k zeroV)) := ⟨_, rfl⟩
          have HConf : Hid (∀ W, Calls Try.prog 29 #[(own.getD i zeroV).val, (own.getD k zeroV).val] W (BoolPost W kc)) := fun W => by
            rw [hkc]; exact rconf_any _ _ W (HOK.out _ (List.mem_of_getElem? hx)) (HOK.out _ (List.mem_of_getElem? hy))
          have HKc := Lib.hid hkc
          clear hkc hx hy
          obtain ⟨vi, hvi⟩ : ∃ v, v = own.getD i zeroV := ⟨_, rfl⟩
          obtain ⟨vk, hvk⟩ : ∃ v, v = own.getD k zeroV := ⟨_, rfl⟩
          rw [← hvi] at HRow1
          rw [← hvk] at HRow2
          rw [← hvi, ← hvk] at HConf HKc
          have Hvi := Lib.hid hvi
          have Hvk := Lib.hid hvk
          clear hvi hvk
          have i1 : (0 : Int) ≤ (i : Int) := by omega
          have i2 : (i : Int) < (nv : Int) := by omega
          have i3 : (0 : Int) ≤ (k : Int) := by omega
          have i4 : (k : Int) < (nv : Int) := by omega
          cases kc
          · go_wp2
            refine wp_region_noPanic ?_
            refine wp_region_held_drew (S := fun w' => rowAt w' b (o + i * 22) 22 = some vi.cells ∧ rowAt w' b (o + k * 22) 22 = some vk.cells) (by kernel_rfl) (⟨HRow1.out _ hbw.drew, HRow2.out _ hbw.drew⟩) (fun hHeld => ?_)
            refine wpAnyH_takeD (some 34) (i := 0) (v := ?vh1_0) rfl rfl (by kernel_rfl) (by kernel_rfl) (by kernel_rfl) (fun _ _ _ h => h) (by rfl) ?hh1_0 (by assumption) ?_
            case hh1_0 => (intro wq hSw; (try dsimp only at hSw); go_simp; (try (with_reducible rfl)))
            go_frame
            refine wpAnyH_takeD (some 35) (i := 1) (v := ?vh1_1) rfl rfl (by kernel_rfl) (by kernel_rfl) (by kernel_rfl) (fun _ _ _ h => h) (by rfl) ?hh1_1 (by assumption) ?_
            case hh1_1 => (intro wq hSw; (try dsimp only at hSw); go_simp; (try (with_reducible rfl)))
            go_frame
            refine wpAnyH_takeD (some 36) (i := 2) (v := ?vh1_2) rfl rfl (by kernel_rfl) (by kernel_rfl) (by kernel_rfl) (fun _ _ _ h => h) (by rfl) ?hh1_2 (by assumption) ?_
            case hh1_2 => (intro wq hSw; (try dsimp only at hSw); go_simp; (try (with_reducible rfl)))
            go_frame
            refine wpAnyH_takeD (some 37) (i := 3) (v := ?vh1_3) rfl rfl (by kernel_rfl) (by kernel_rfl) (by kernel_rfl) (fun _ _ _ h => h) (by rfl) ?hh1_3 (by assumption) ?_
            case hh1_3 => (intro wq hSw; (try dsimp only at hSw); go_simp; (try (with_reducible rfl)))
            go_frame
            refine wpAnyH_takeD (some 38) (i := 4) (v := ?vh1_4) rfl rfl (by kernel_rfl) (by kernel_rfl) (by kernel_rfl) (fun _ _ _ h => h) (by rfl) ?hh1_4 (by assumption) ?_
            case hh1_4 => (intro wq hSw; (try dsimp only at hSw); go_simp; (try (with_reducible rfl)))
            go_frame
            refine wpAnyH_takeD (some 39) (i := 5) (v := ?vh1_5) rfl rfl (by kernel_rfl) (by kernel_rfl) (by kernel_rfl) (fun _ _ _ h => h) (by rfl) ?hh1_5 (by assumption) ?_
            case hh1_5 => (intro wq hSw; (try dsimp only at hSw); go_simp; (try (with_reducible rfl)))
            go_frame
            refine wpAnyH_takeD (some 40) (i := 6) (v := ?vh1_6) rfl rfl (by kernel_rfl) (by kernel_rfl) (by kernel_rfl) (fun _ _ _ h => h) (by rfl) ?hh1_6 (by assumption) ?_
            case hh1_6 => (intro wq hSw; (try dsimp only at hSw); go_simp; (try (with_reducible rfl)))
            go_frame
            refine wpAnyH_takeD (some 41) (i := 7) (v := ?vh1_7) rfl rfl (by kernel_rfl) (by kernel_rfl) (by kernel_rfl) (fun _ _ _ h => h) (by rfl) ?hh1_7 (by assumption) ?_
            case hh1_7 => (intro wq hSw; (try dsimp only at hSw); go_simp; (try (with_reducible rfl)))
            go_frame
            refine wpAnyH_ready (rs := [8]) (by kernel_rfl) (by simp) ?_
            refine AllReadyH.cons rfl (fun K hK => ?_) AllReadyH.nil
            go_simp
            refine (HConf.out _).mono ?_; rintro en w2 ⟨rfl, hb2⟩; have hbw2 : Below w.heap.size w w2 := hbw.trans (((Below.refl _ _).drew.trans hb2).mono hbw.size)
            go_wp2_with fail
            refine hK.out _ _ (⟨HRow1.out _ hbw2, HRow2.out _ hbw2⟩) (fun hHeld => ?_)
            clear hK K
            try go_frame
            refine wpAnyH_done (by kernel_rfl) ?_ _
            refine NoPanic.normal ?_
            go_wp2
            go_roundw
            case rel => exact ⟨k + 1, by omega, by go_num, fun b hb => by
              rcases Nat.lt_or_ge b k with h | h
              · exact HNo2.out b h
              · obtain rfl : b = k := by omega
                rw [← Hvi.out, ← Hvk.out]
                have := HKc.out; simpa using this, hbw2⟩
            case measure => simp [intOf]; omega
          · go_wp2
            refine wp_region_noPanic ?_
            refine wp_region_held_drew (S := fun w' => rowAt w' b (o + i * 22) 22 = some vi.cells ∧ rowAt w' b (o + k * 22) 22 = some vk.cells) (by kernel_rfl) (⟨HRow1.out _ hbw.drew, HRow2.out _ hbw.drew⟩) (fun hHeld => ?_)
            refine wpAnyH_takeD (some 34) (i := 0) (v := ?vh1_0) rfl rfl (by kernel_rfl) (by kernel_rfl) (by kernel_rfl) (fun _ _ _ h => h) (by rfl) ?hh1_0 (by assumption) ?_
            case hh1_0 => (intro wq hSw; (try dsimp only at hSw); go_simp; (try (with_reducible rfl)))
            go_frame
            refine wpAnyH_takeD (some 35) (i := 1) (v := ?vh1_1) rfl rfl (by kernel_rfl) (by kernel_rfl) (by kernel_rfl) (fun _ _ _ h => h) (by rfl) ?hh1_1 (by assumption) ?_
            case hh1_1 => (intro wq hSw; (try dsimp only at hSw); go_simp; (try (with_reducible rfl)))
            go_frame
            refine wpAnyH_takeD (some 36) (i := 2) (v := ?vh1_2) rfl rfl (by kernel_rfl) (by kernel_rfl) (by kernel_rfl) (fun _ _ _ h => h) (by rfl) ?hh1_2 (by assumption) ?_
            case hh1_2 => (intro wq hSw; (try dsimp only at hSw); go_simp; (try (with_reducible rfl)))
            go_frame
            refine wpAnyH_takeD (some 37) (i := 3) (v := ?vh1_3) rfl rfl (by kernel_rfl) (by kernel_rfl) (by kernel_rfl) (fun _ _ _ h => h) (by rfl) ?hh1_3 (by assumption) ?_
            case hh1_3 => (intro wq hSw; (try dsimp only at hSw); go_simp; (try (with_reducible rfl)))
            go_frame
            refine wpAnyH_takeD (some 38) (i := 4) (v := ?vh1_4) rfl rfl (by kernel_rfl) (by kernel_rfl) (by kernel_rfl) (fun _ _ _ h => h) (by rfl) ?hh1_4 (by assumption) ?_
            case hh1_4 => (intro wq hSw; (try dsimp only at hSw); go_simp; (try (with_reducible rfl)))
            go_frame
            refine wpAnyH_takeD (some 39) (i := 5) (v := ?vh1_5) rfl rfl (by kernel_rfl) (by kernel_rfl) (by kernel_rfl) (fun _ _ _ h => h) (by rfl) ?hh1_5 (by assumption) ?_
            case hh1_5 => (intro wq hSw; (try dsimp only at hSw); go_simp; (try (with_reducible rfl)))
            go_frame
            refine wpAnyH_takeD (some 40) (i := 6) (v := ?vh1_6) rfl rfl (by kernel_rfl) (by kernel_rfl) (by kernel_rfl) (fun _ _ _ h => h) (by rfl) ?hh1_6 (by assumption) ?_
            case hh1_6 => (intro wq hSw; (try dsimp only at hSw); go_simp; (try (with_reducible rfl)))
            go_frame
            refine wpAnyH_takeD (some 41) (i := 7) (v := ?vh1_7) rfl rfl (by kernel_rfl) (by kernel_rfl) (by kernel_rfl) (fun _ _ _ h => h) (by rfl) ?hh1_7 (by assumption) ?_
            case hh1_7 => (intro wq hSw; (try dsimp only at hSw); go_simp; (try (with_reducible rfl)))
            go_frame
            refine wpAnyH_ready (rs := [8]) (by kernel_rfl) (by simp) ?_
            refine AllReadyH.cons rfl (fun K hK => ?_) AllReadyH.nil
            go_simp
            refine (HConf.out _).mono ?_; rintro en w2 ⟨rfl, hb2⟩; have hbw2 : Below w.heap.size w w2 := hbw.trans (((Below.refl _ _).drew.trans hb2).mono hbw.size)
            go_wp2_with fail
            refine hK.out _ _ (⟨HRow1.out _ hbw2, HRow2.out _ hbw2⟩) (fun hHeld => ?_)
            clear hK K
            try go_frame
            refine wpAnyH_done (by kernel_rfl) ?_ _
            refine NoPanic.normal ?_
            go_wp2_with ((go_at_call 21; refine (awake10_any _).mono ?_; rintro en w3 ⟨rfl, hb3⟩))
            go_ret
            exact ⟨rfl, hbw2.trans (hb3.mono hbw2.size)⟩
        · obtain rfl : k = i := by omega
          go_wp2
          go_roundw
          case rel => exact ⟨k + 1, by omega, by go_num, fun a b ha hb => by
            rcases Nat.lt_or_ge a k with h | h
            · exact HNo.out a b h hb
            · obtain rfl : a = k := by omega
              exact HNo2.out b hb, hbw⟩
          case measure => simp [intOf]; omega
    · obtain rfl : nv = i := by omega
      obtain ⟨M, x⟩ := r
      by_cases hx : x = 0
      · subst hx
        obtain ⟨xb, rl, hp, hx1, hx10, hrl, hL⟩ := checkF_ok keys p M HRes.out
        obtain ⟨q, hq, hq10⟩ := checkL_nat keys _ _ _ _ M hL (by omega)
        subst hq
        have hn2 : n = 1 + xb.toNat * 786 := by rw [← HN.out, hp, List.length_cons, hrl]; omega
        have hdrop : p.drop 1 = rl := by rw [hp]; rfl
        cases hh : hasB q id
        · have HHas : Hid (∀ W, Calls Try.prog 30 #[.int .i64 (q : Int), .int .i64 id] W fun e w' => e = .returned (.bool false) ∧ w' = W) := fun W => by rw [← hh]; exact has_any q id W hq10
          clear hh hp hx1 hx10 hrl hL hn2 hdrop HCM
          go_wp2_with (first
            | (go_at_call 22; refine (HC.out _ hbw).mono ?_; rintro en w2 ⟨rfl, hb2⟩)
            | (go_at_call 30; refine (HHas.out _).mono ?_; rintro en w' ⟨rfl, rfl⟩)
            | (go_at_call 21; refine (awake10_any _).mono ?_; rintro en w3 ⟨rfl, hb3⟩))
          go_ret
          have hbw2 := hbw.trans (hb2.mono hbw.size)
          exact ⟨rfl, hbw2.trans (hb3.mono hbw2.size)⟩
        · have HHas : Hid (∀ W, Calls Try.prog 30 #[.int .i64 (q : Int), .int .i64 id] W fun e w' => e = .returned (.bool true) ∧ w' = W) := fun W => by rw [← hh]; exact has_any q id W hq10
          have hh2 : (0 ≤ id ∧ id < 10) ∧ q.testBit id.toNat = true := by
            unfold hasB at hh
            simp only [Bool.and_eq_true, decide_eq_true_eq] at hh
            exact ⟨⟨hh.1, hh.2.1⟩, hh.2.2⟩
          obtain ⟨idn, hid⟩ := Int.eq_ofNat_of_zero_le hh2.1.1
          subst hid
          have hbit := checkL_bit keys idn _ _ _ _ q hL hh2.2 (by simp)
          rw [← hdrop] at hL hbit
          have HL := Lib.hid hL
          have HBit := Lib.hid hbit
          have HN2 := Lib.hid hn2
          obtain ⟨hc, hm⟩ := HCM.out
          unfold maxLen at hm
          obtain ⟨b, o, hAe, hb, hcell⟩ := HR.out.cells (by rw [hp]; simp)
          subst hAe
          have hn787 : 787 ≤ n := by omega
          have hnl : n ≤ 7861 := by omega
          clear hh hh2 hL hbit hn2 hdrop hp hrl hcell HCM
          generalize xb.toNat = kx at *
          go_wp2_with (first
            | (go_at_call 22; refine (HC.out _ hbw).mono ?_; rintro en w2 ⟨rfl, hb2⟩)
            | (go_at_call 30; refine (HHas.out _).mono ?_; rintro en w' ⟨rfl, rfl⟩))
          have hbw2 := hbw.trans (hb2.mono hbw.size)
          clear hbw hb2
          go_loopw [13] (fun g wr => HonRel3 keys p w n (idn : Int) (q : Int) g wr) (fun g _ => n - (intOf g).toNat)
          case atStart => exact ⟨kx, 1, -1, 0, rfl, HN2.out.symm, by omega, by omega, HL.out, HBit.out, hbw2⟩
          case round =>
            clear hbw2
            obtain ⟨k, at_, before, m, rfl, hat, hat1, hk10, hck, hex, hbw⟩ := hrel
            have HCk := Lib.hid hck
            have HEx := Lib.hid hex
            have hk1 : 1 ≤ k := by obtain ⟨j, hj, _⟩ := hex; omega
            clear hck hex
            obtain ⟨k, rfl⟩ : ∃ k', k = k' + 1 := ⟨k - 1, by omega⟩
            clear hk1
            have hll : (p.drop at_).length = n - at_ := by rw [List.length_drop, HN.out]
            have hel : elemF keys (p.drop at_) before = 0 := by
              have h := HCk.out
              rw [checkL] at h
              by_cases hz : elemF keys (p.drop at_) before = 0
              · exact hz
              · rw [if_neg hz] at h
                exact absurd (congrArg Prod.snd h) hz
            have hnext : checkL keys k (p.drop (at_ + 786)) (voteA (p.drop at_)).1.signer (m ||| 2 ^ (voteA (p.drop at_)).1.signer.toNat) = ((q : Int), 0) := by
              have h := HCk.out
              rw [checkL, if_pos hel, List.drop_drop] at h
              exact h
            obtain ⟨hz1, hz2, hf⟩ := elemF_zero hel
            have hcf := (faultF_zero hf).1
            have hex2 : ¬ (voteA (p.drop at_)).1.signer = (idn : Int) → ∃ j, j < k ∧ (voteA ((p.drop (at_ + 786)).drop (786 * j))).1.signer = (idn : Int) := fun hne => by
              obtain ⟨j, hj, he⟩ := HEx.out
              rcases Nat.eq_zero_or_pos j with h0 | h0
              · subst h0; exact absurd (by simpa using he) hne
              · refine ⟨j - 1, by omega, ?_⟩
                rw [List.drop_drop] at he ⊢
                rw [show at_ + 786 + 786 * (j - 1) = at_ + 786 * j from by omega]
                exact he
            have hrd : Rd w w.heap.size (some ⟨b, o + at_, none⟩) ((p.drop at_).map B) := by
              obtain ⟨b', o', e, hb', hc'⟩ := HR.out.cells (by intro e; rw [List.map_eq_nil_iff] at e; have := HN.out; rw [e] at this; simp at this; omega)
              injection e with e
              injection e with e1 e2
              subst e1; subst e2
              refine Rd.mk hb' fun j u hu => ?_
              rw [Nat.add_assoc]
              exact hc' _ u (by rw [List.map_drop, List.getElem?_drop] at hu; exact hu)
            have hrt : Rd w w.heap.size (some ⟨b, o + at_, none⟩) (((p.drop at_).take 786).map B) := by rw [List.map_take]; exact hrd.take 786
            have hdec := fun W (hW : Below w.heap.size w W) => redec_ok_any (some ⟨b, o + at_, none⟩) (c - at_) ((p.drop at_).take 786) W ((hrt.below hW).more hW.size) (by rw [List.length_take, hll]; omega) (by omega) (by unfold maxLen; omega) (by rw [voteA_take]; exact hz1) (by rw [voteB_take]; exact hz2)
            rw [voteA_take, voteB_take, sigA_take, sigB_take] at hdec
            have HDec := Lib.hid hdec
            have HNext : Hid (∃ b' m', checkL keys k (p.drop (at_ + 786)) b' m' = ((q : Int), 0)) := ⟨_, _, hnext⟩
            have HEx2 := Lib.hid hex2
            have HCf := Lib.hid hcf
            clear hdec hrt hrd hll hel hnext hz1 hz2 hf HCk HEx hex2 hcf
            generalize (voteA (p.drop at_)).1 = va at *
            generalize (voteB (p.drop at_)).1 = vb at *
            generalize sigA (p.drop at_) = sa at *
            generalize sigB (p.drop at_) = sb at *
            have i2 : at_ + 786 ≤ n := by omega
            have i3 : ¬ c = at_ := by omega
            go_wp2_with fail
            refine (HDec.out _ hbw).mono ?_
            rintro en w2 ⟨A2, c2, A3, c3, rfl, hn2, hn3, hr2, hc2, hm2, hr3, hc3, hm3, hb2⟩
            obtain ⟨E, hE⟩ : ∃ E : Ev, E = ⟨⟨va, sa, A2, c2⟩, ⟨vb, sb, A3, c3⟩⟩ := ⟨_, rfl⟩
            have hEa : E.a.vote = va := by rw [hE]
            have hEb : E.b.vote = vb := by rw [hE]
            rw [← hE]
            have hbw2 := hbw.trans (hb2.mono hbw.size)
            clear hE hn2 hn3 hr2 hc2 hm2 hr3 hc3 hm3 hb2 hbw
            have HEa := Lib.hid hEa
            have HEb := Lib.hid hEb
            clear hEa hEb
            go_wp2_with (refine wpList_store_blk rfl 45 (.tmp 14) (.tmp 73) rfl w2.heap.size E.cells rfl rfl 45 zeroEc (Blk.new w2 _ _) (by rw [Ev.size_cells]; rfl) (by rw [Ev.size_cells]; exact size_ev) (fun u hu => one_ev E hu) ?_)
            intro w3 hV3 hg3 hs3
            have hb23 : Below w2.heap.size w2 w3 := ((Below.refl _ _).alloc (Nat.le_refl _) _).grown hg3 (by simp) (by rintro j ⟨⟩; omega)
            have hbw3 := hbw2.trans (hb23.mono hbw2.size)
            have hl3 := hV3.lt
            clear hg3 hs3 hb23
            have s3 : w3.cell? ⟨w2.heap.size, 4, none⟩ = some (I va.signer) := by rw [← HEa.out]; exact (hV3.cell 4).trans E.cell_signer
            by_cases hne : va.signer = (idn : Int)
            · have hnb : (va.signer != (idn : Int)) = false := by rw [hne]; exact bne_self_eq_false _
              clear hne HEx2
              go_wp2
              obtain ⟨wo, hwo⟩ : ∃ wo : World, wo = w3 := ⟨_, rfl⟩
              subst hwo
              go_loopw [16, 17, 18] (fun x y z wr => HonRel4 own w nv va vb E w2.heap.size x y z wr) (fun _ _ z _ => nv - (intOf z).toNat)
              case atStart => exact ⟨0, false, false, by omega, rfl, rfl, rfl, (fun h => by cases h), (fun h => by cases h), hV3, hbw3⟩
              case round =>
                clear hV3 hbw3 s3 hl3
                obtain ⟨i, ca, cb, hi, rfl, rfl, rfl, hca, hcb, hV3, hbw3⟩ := hrel
                have HCa := Lib.hid hca
                have HCb := Lib.hid hcb
                clear hca hcb
                by_cases hlt : i < nv
                · have hx := getD_some zeroV (l := own) (k := i) (by rw [HNV.out]; exact hlt)
                  obtain ⟨b2, o2, hVe, _, _⟩ := HV.out.cells (by
                    intro e
                    have := flat_length vtc 22 own (vtc_len own)
                    rw [e] at this
                    have h2 := HNV.out
                    simp at this; omega)
                  subst hVe
                  have HRow1 : Hid (∀ W, Below w.heap.size w W → rowAt W b2 (o2 + i * 22) 22 = some (own.getD i zeroV).cells) := fun W hW => (HV.out.below hW).voteRow hx
                  clear hx
                  obtain ⟨vi, hvi⟩ : ∃ v, v = own.getD i zeroV := ⟨_, rfl⟩
                  rw [← hvi] at HRow1
                  have Hvi := Lib.hid hvi
                  clear hvi
                  have HRA : Hid (∀ W, Blk W w2.heap.size 45 E.cells → rowAt W w2.heap.size 0 22 = some va.cells) := fun W h => by rw [← HEa.out]; exact E.row_va h
                  have HRB : Hid (∀ W, Blk W w2.heap.size 45 E.cells → rowAt W w2.heap.size 23 22 = some vb.cells) := fun W h => by rw [← HEb.out]; exact E.row_vb h
                  obtain ⟨ka, hka⟩ : ∃ ka, ka = decide (vi = va) := ⟨_, rfl⟩
                  obtain ⟨kb, hkb⟩ : ∃ kb, kb = decide (vi = vb) := ⟨_, rfl⟩
                  have e1 : ∀ W, (Op.equalIn 10000 41 (.agg vi.cells) (.agg va.cells)).run Try.prog W = .ok ka W := fun W => by rw [hka]; exact eqVt vi va W
                  have e2 : ∀ W, (Op.equalIn 10000 41 (.agg vi.cells) (.agg vb.cells)).run Try.prog W = .ok kb W := fun W => by rw [hkb]; exact eqVt vi vb W
                  have HKa : Hid (ka = true → own.getD i zeroV = va) := fun h => by rw [hka] at h; rw [← Hvi.out]; simpa using h
                  have HKb : Hid (kb = true → own.getD i zeroV = vb) := fun h => by rw [hkb] at h; rw [← Hvi.out]; simpa using h
                  clear hka hkb
                  have i5 : (0 : Int) ≤ (i : Int) := by omega
                  have i6 : (i : Int) < (nv : Int) := by omega
                  have hl3 := hV3.lt
                  cases ca <;> cases cb
                  · go_wp2
                    refine wp_region_noPanic ?_
                    refine wp_region_held_drew (S := fun w' => rowAt w' b2 (o2 + i * 22) 22 = some vi.cells ∧ rowAt w' w2.heap.size 0 22 = some va.cells ∧ rowAt w' w2.heap.size 23 22 = some vb.cells) (by kernel_rfl) (⟨HRow1.out _ hbw3.drew, HRA.out _ hV3.drew, HRB.out _ hV3.drew⟩) (fun hHeld => ?_)
                    refine wpAnyH_takeD (some 87) (i := 0) (v := ?vh2_0) rfl rfl (by kernel_rfl) (by kernel_rfl) (by kernel_rfl) (fun _ _ _ h => h) (by rfl) ?hh2_0 (by assumption) ?_
                    case hh2_0 => (intro wq hSw; (try dsimp only at hSw); go_simp; (try (with_reducible rfl)))
                    go_frame
                    refine wpAnyH_takeD (some 88) (i := 1) (v := ?vh2_1) rfl rfl (by kernel_rfl) (by kernel_rfl) (by kernel_rfl) (fun _ _ _ h => h) (by rfl) ?hh2_1 (by assumption) ?_
                    case hh2_1 => (intro wq hSw; (try dsimp only at hSw); go_simp; (try (with_reducible rfl)))
                    go_frame
                    refine wpAnyH_takeD (some 89) (i := 2) (v := ?vh2_2) rfl rfl (by kernel_rfl) (by kernel_rfl) (by kernel_rfl) (fun _ _ _ h => h) (by rfl) ?hh2_2 (by assumption) ?_
                    case hh2_2 => (intro wq hSw; (try dsimp only at hSw); go_simp; (try (with_reducible rfl)))
                    go_frame
                    refine wpAnyH_takeD (some 90) (i := 3) (v := ?vh2_3) rfl rfl (by kernel_rfl) (by kernel_rfl) (by kernel_rfl) (fun _ _ _ h => h) (by rfl) ?hh2_3 (by assumption) ?_
                    case hh2_3 => (intro wq hSw; (try dsimp only at hSw); go_simp; (try (with_reducible rfl)))
                    go_frame
                    refine wpAnyH_takeD (some 91) (i := 4) (v := ?vh2_4) rfl rfl (by kernel_rfl) (by kernel_rfl) (by kernel_rfl) (fun _ _ _ h => h) (by rfl) ?hh2_4 (by assumption) ?_
                    case hh2_4 => (intro wq hSw; (try dsimp only at hSw); go_simp; (try (with_reducible rfl)))
                    go_frame
                    refine wpAnyH_takeD (some 92) (i := 5) (v := ?vh2_5) rfl rfl (by kernel_rfl) (by kernel_rfl) (by kernel_rfl) (fun _ _ _ h => h) (by rfl) ?hh2_5 (by assumption) ?_
                    case hh2_5 => (intro wq hSw; (try dsimp only at hSw); go_simp; (try (with_reducible rfl)))
                    go_frame
                    refine wpAnyH_takeD (some 93) (i := 6) (v := ?vh2_6) rfl rfl (by kernel_rfl) (by kernel_rfl) (by kernel_rfl) (fun _ _ _ h => h) (by rfl) ?hh2_6 (by assumption) ?_
                    case hh2_6 => (intro wq hSw; (try dsimp only at hSw); go_simp; (try (with_reducible rfl)))
                    go_frame
                    refine wpAnyH_takeD (some 94) (i := 7) (v := ?vh2_7) rfl rfl (by kernel_rfl) (by kernel_rfl) (by kernel_rfl) (fun _ _ _ h => h) (by rfl) ?hh2_7 (by assumption) ?_
                    case hh2_7 => (intro wq hSw; (try dsimp only at hSw); go_simp; (try (with_reducible rfl)))
                    go_frame
                    refine wpAnyH_takeD (some 95) (i := 8) (v := ?vh2_8) rfl rfl (by kernel_rfl) (by kernel_rfl) (by kernel_rfl) (fun _ _ _ h => h) (by rfl) ?hh2_8 (by assumption) ?_
                    case hh2_8 => (intro wq hSw; (try dsimp only at hSw); go_simp; (try (with_reducible rfl)))
                    go_frame
                    refine wpAnyH_takeD (some 96) (i := 9) (v := ?vh2_9) rfl rfl (by kernel_rfl) (by kernel_rfl) (by kernel_rfl) (fun _ _ _ h => h) (by rfl) ?hh2_9 (by assumption) ?_
                    case hh2_9 => (intro wq hSw; (try dsimp only at hSw); go_simp; (try (with_reducible rfl)))
                    go_frame
                    refine wpAnyH_takeD (some 97) (i := 10) (v := ?vh2_10) rfl rfl (by kernel_rfl) (by kernel_rfl) (by kernel_rfl) (fun _ _ _ h => h) (by rfl) ?hh2_10 (by assumption) ?_
                    case hh2_10 => (intro wq hSw; (try dsimp only at hSw); go_simp; (try (with_reducible rfl)))
                    go_frame
                    refine wpAnyH_takeD (some 98) (i := 11) (v := ?vh2_11) rfl rfl (by kernel_rfl) (by kernel_rfl) (by kernel_rfl) (fun _ _ _ h => h) (by rfl) ?hh2_11 (by assumption) ?_
                    case hh2_11 => (intro wq hSw; (try dsimp only at hSw); go_simp; (try (with_reducible rfl)))
                    go_frame
                    refine wpAnyH_takeD (some 99) (i := 12) (v := ?vh2_12) rfl rfl (by kernel_rfl) (by kernel_rfl) (by kernel_rfl) (fun _ _ _ h => h) (by rfl) ?hh2_12 (by assumption) ?_
                    case hh2_12 => (intro wq hSw; (try dsimp only at hSw); go_simp; (try (with_reducible rfl)))
                    go_frame
                    refine wpAnyH_takeD (some 100) (i := 13) (v := ?vh2_13) rfl rfl (by kernel_rfl) (by kernel_rfl) (by kernel_rfl) (fun _ _ _ h => h) (by rfl) ?hh2_13 (by assumption) ?_
                    case hh2_13 => (intro wq hSw; (try dsimp only at hSw); go_simp; (try (with_reducible rfl)))
                    go_frame
                    refine wpAnyH_takeD (some 101) (i := 14) (v := ?vh2_14) rfl rfl (by kernel_rfl) (by kernel_rfl) (by kernel_rfl) (fun _ _ _ h => h) (by rfl) ?hh2_14 (by assumption) ?_
                    case hh2_14 => (intro wq hSw; (try dsimp only at hSw); go_simp; (try (with_reducible rfl)))
                    go_frame
                    refine wpAnyH_takeD (some 102) (i := 15) (v := ?vh2_15) rfl rfl (by kernel_rfl) (by kernel_rfl) (by kernel_rfl) (fun _ _ _ h => h) (by rfl) ?hh2_15 (by assumption) ?_
                    case hh2_15 => (intro wq hSw; (try dsimp only at hSw); go_simp; (try (with_reducible rfl)))
                    go_frame
                    refine wpAnyH_takeD (some 103) (i := 16) (v := ?vh2_16) rfl rfl (by kernel_rfl) (by kernel_rfl) (by kernel_rfl) (fun _ _ _ h => h) (by rfl) ?hh2_16 (by assumption) ?_
                    case hh2_16 => (intro wq hSw; (try dsimp only at hSw); go_simp; (try (with_reducible rfl)))
                    go_frame
                    refine wpAnyH_takeD (some 104) (i := 17) (v := ?vh2_17) rfl rfl (by kernel_rfl) (by kernel_rfl) (by kernel_rfl) (fun _ _ _ h => h) (by rfl) ?hh2_17 (by assumption) ?_
                    case hh2_17 => (intro wq hSw; (try dsimp only at hSw); go_simp; (try (with_reducible rfl)))
                    go_frame
                    refine wpAnyH_takeD (some 105) (i := 18) (v := ?vh2_18) rfl rfl (by kernel_rfl) (by kernel_rfl) (by kernel_rfl) (fun _ _ _ h => h) (by rfl) ?hh2_18 (by assumption) ?_
                    case hh2_18 => (intro wq hSw; (try dsimp only at hSw); go_simp; (try (with_reducible rfl)))
                    go_frame
                    refine wpAnyH_takeD (some 106) (i := 19) (v := ?vh2_19) rfl rfl (by kernel_rfl) (by kernel_rfl) (by kernel_rfl) (fun _ _ _ h => h) (by rfl) ?hh2_19 (by assumption) ?_
                    case hh2_19 => (intro wq hSw; (try dsimp only at hSw); go_simp; (try (with_reducible rfl)))
                    go_frame
                    refine wpAnyH_takeD (some 107) (i := 20) (v := ?vh2_20) rfl rfl (by kernel_rfl) (by kernel_rfl) (by kernel_rfl) (fun _ _ _ h => h) (by rfl) ?hh2_20 (by assumption) ?_
                    case hh2_20 => (intro wq hSw; (try dsimp only at hSw); go_simp; (try (with_reducible rfl)))
                    go_frame
                    refine wpAnyH_takeD (some 108) (i := 21) (v := ?vh2_21) rfl rfl (by kernel_rfl) (by kernel_rfl) (by kernel_rfl) (fun _ _ _ h => h) (by rfl) ?hh2_21 (by assumption) ?_
                    case hh2_21 => (intro wq hSw; (try dsimp only at hSw); go_simp; (try (with_reducible rfl)))
                    go_frame
                    refine wpAnyH_takeD (some 16) (i := 22) (v := ?vh2_22) rfl rfl (by kernel_rfl) (by kernel_rfl) (by kernel_rfl) (fun _ _ _ h => h) (by rfl) ?hh2_22 (by assumption) ?_
                    case hh2_22 => (intro wq hSw; (try dsimp only at hSw); go_simp; (try (with_reducible rfl)))
                    go_frame
                    refine wpAnyH_takeD (some 17) (i := 23) (v := ?vh2_23) rfl rfl (by kernel_rfl) (by kernel_rfl) (by kernel_rfl) (fun _ _ _ h => h) (by rfl) ?hh2_23 (by assumption) ?_
                    case hh2_23 => (intro wq hSw; (try dsimp only at hSw); go_simp; (try (with_reducible rfl)))
                    go_frame
                    refine wpAnyH_done (by kernel_rfl) ?_ _
                    refine NoPanic.normal ?_
                    go_wp2
                    go_roundw
                    case rel => exact ⟨i + 1, ka, kb, by omega, by go_num, rfl, rfl, (fun h => ⟨i, by omega, HKa.out h⟩), (fun h => ⟨i, by omega, HKb.out h⟩), hV3.drew, hbw3.drew⟩
                    case measure => simp [intOf]; omega
                  · go_wp2
                    refine wp_region_noPanic ?_
                    refine wp_region_held_drew (S := fun w' => rowAt w' b2 (o2 + i * 22) 22 = some vi.cells ∧ rowAt w' w2.heap.size 0 22 = some va.cells ∧ rowAt w' w2.heap.size 23 22 = some vb.cells) (by kernel_rfl) (⟨HRow1.out _ hbw3.drew, HRA.out _ hV3.drew, HRB.out _ hV3.drew⟩) (fun hHeld => ?_)
                    refine wpAnyH_takeD (some 87) (i := 0) (v := ?vh3_0) rfl rfl (by kernel_rfl) (by kernel_rfl) (by kernel_rfl) (fun _ _ _ h => h) (by rfl) ?hh3_0 (by assumption) ?_
                    case hh3_0 => (intro wq hSw; (try dsimp only at hSw); go_simp; (try (with_reducible rfl)))
                    go_frame
                    refine wpAnyH_takeD (some 88) (i := 1) (v := ?vh3_1) rfl rfl (by kernel_rfl) (by kernel_rfl) (by kernel_rfl) (fun _ _ _ h => h) (by rfl) ?hh3_1 (by assumption) ?_
                    case hh3_1 => (intro wq hSw; (try dsimp only at hSw); go_simp; (try (with_reducible rfl)))
                    go_frame
                    refine wpAnyH_takeD (some 89) (i := 2) (v := ?vh3_2) rfl rfl (by kernel_rfl) (by kernel_rfl) (by kernel_rfl) (fun _ _ _ h => h) (by rfl) ?hh3_2 (by assumption) ?_
                    case hh3_2 => (intro wq hSw; (try dsimp only at hSw); go_simp; (try (with_reducible rfl)))
                    go_frame
                    refine wpAnyH_takeD (some 90) (i := 3) (v := ?vh3_3) rfl rfl (by kernel_rfl) (by kernel_rfl) (by kernel_rfl) (fun _ _ _ h => h) (by rfl) ?hh3_3 (by assumption) ?_
                    case hh3_3 => (intro wq hSw; (try dsimp only at hSw); go_simp; (try (with_reducible rfl)))
                    go_frame
                    refine wpAnyH_takeD (some 91) (i := 4) (v := ?vh3_4) rfl rfl (by kernel_rfl) (by kernel_rfl) (by kernel_rfl) (fun _ _ _ h => h) (by rfl) ?hh3_4 (by assumption) ?_
                    case hh3_4 => (intro wq hSw; (try dsimp only at hSw); go_simp; (try (with_reducible rfl)))
                    go_frame
                    refine wpAnyH_takeD (some 92) (i := 5) (v := ?vh3_5) rfl rfl (by kernel_rfl) (by kernel_rfl) (by kernel_rfl) (fun _ _ _ h => h) (by rfl) ?hh3_5 (by assumption) ?_
                    case hh3_5 => (intro wq hSw; (try dsimp only at hSw); go_simp; (try (with_reducible rfl)))
                    go_frame
                    refine wpAnyH_takeD (some 93) (i := 6) (v := ?vh3_6) rfl rfl (by kernel_rfl) (by kernel_rfl) (by kernel_rfl) (fun _ _ _ h => h) (by rfl) ?hh3_6 (by assumption) ?_
                    case hh3_6 => (intro wq hSw; (try dsimp only at hSw); go_simp; (try (with_reducible rfl)))
                    go_frame
                    refine wpAnyH_takeD (some 94) (i := 7) (v := ?vh3_7) rfl rfl (by kernel_rfl) (by kernel_rfl) (by kernel_rfl) (fun _ _ _ h => h) (by rfl) ?hh3_7 (by assumption) ?_
                    case hh3_7 => (intro wq hSw; (try dsimp only at hSw); go_simp; (try (with_reducible rfl)))
                    go_frame
                    refine wpAnyH_takeD (some 95) (i := 8) (v := ?vh3_8) rfl rfl (by kernel_rfl) (by kernel_rfl) (by kernel_rfl) (fun _ _ _ h => h) (by rfl) ?hh3_8 (by assumption) ?_
                    case hh3_8 => (intro wq hSw; (try dsimp only at hSw); go_simp; (try (with_reducible rfl)))
                    go_frame
                    refine wpAnyH_takeD (some 96) (i := 9) (v := ?vh3_9) rfl rfl (by kernel_rfl) (by kernel_rfl) (by kernel_rfl) (fun _ _ _ h => h) (by rfl) ?hh3_9 (by assumption) ?_
                    case hh3_9 => (intro wq hSw; (try dsimp only at hSw); go_simp; (try (with_reducible rfl)))
                    go_frame
                    refine wpAnyH_takeD (some 97) (i := 10) (v := ?vh3_10) rfl rfl (by kernel_rfl) (by kernel_rfl) (by kernel_rfl) (fun _ _ _ h => h) (by rfl) ?hh3_10 (by assumption) ?_
                    case hh3_10 => (intro wq hSw; (try dsimp only at hSw); go_simp; (try (with_reducible rfl)))
                    go_frame
                    refine wpAnyH_takeD (some 98) (i := 11) (v := ?vh3_11) rfl rfl (by kernel_rfl) (by kernel_rfl) (by kernel_rfl) (fun _ _ _ h => h) (by rfl) ?hh3_11 (by assumption) ?_
                    case hh3_11 => (intro wq hSw; (try dsimp only at hSw); go_simp; (try (with_reducible rfl)))
                    go_frame
                    refine wpAnyH_takeD (some 99) (i := 12) (v := ?vh3_12) rfl rfl (by kernel_rfl) (by kernel_rfl) (by kernel_rfl) (fun _ _ _ h => h) (by rfl) ?hh3_12 (by assumption) ?_
                    case hh3_12 => (intro wq hSw; (try dsimp only at hSw); go_simp; (try (with_reducible rfl)))
                    go_frame
                    refine wpAnyH_skipD (some 100) (i := 13) rfl rfl (by kernel_rfl) (by kernel_rfl) (by kernel_rfl) (fun _ _ _ h => h) (by rfl) (by assumption) ?_
                    go_frame
                    refine wpAnyH_skipD (some 101) (i := 14) rfl rfl (by kernel_rfl) (by kernel_rfl) (by kernel_rfl) (fun _ _ _ h => h) (by rfl) (by assumption) ?_
                    go_frame
                    refine wpAnyH_skipD (some 102) (i := 15) rfl rfl (by kernel_rfl) (by kernel_rfl) (by kernel_rfl) (fun _ _ _ h => h) (by rfl) (by assumption) ?_
                    go_frame
                    refine wpAnyH_skipD (some 103) (i := 16) rfl rfl (by kernel_rfl) (by kernel_rfl) (by kernel_rfl) (fun _ _ _ h => h) (by rfl) (by assumption) ?_
                    go_frame
                    refine wpAnyH_skipD (some 104) (i := 17) rfl rfl (by kernel_rfl) (by kernel_rfl) (by kernel_rfl) (fun _ _ _ h => h) (by rfl) (by assumption) ?_
                    go_frame
                    refine wpAnyH_skipD (some 105) (i := 18) rfl rfl (by kernel_rfl) (by kernel_rfl) (by kernel_rfl) (fun _ _ _ h => h) (by rfl) (by assumption) ?_
                    go_frame
                    refine wpAnyH_skipD (some 106) (i := 19) rfl rfl (by kernel_rfl) (by kernel_rfl) (by kernel_rfl) (fun _ _ _ h => h) (by rfl) (by assumption) ?_
                    go_frame
                    refine wpAnyH_skipD (some 107) (i := 20) rfl rfl (by kernel_rfl) (by kernel_rfl) (by kernel_rfl) (fun _ _ _ h => h) (by rfl) (by assumption) ?_
                    go_frame
                    refine wpAnyH_takeD (some 108) (i := 21) (v := ?vh3_21) rfl rfl (by kernel_rfl) (by kernel_rfl) (by kernel_rfl) (fun _ _ _ h => h) (by rfl) ?hh3_21 (by assumption) ?_
                    case hh3_21 => (intro wq hSw; (try dsimp only at hSw); go_simp; (try (with_reducible rfl)))
                    go_frame
                    refine wpAnyH_takeD (some 16) (i := 22) (v := ?vh3_22) rfl rfl (by kernel_rfl) (by kernel_rfl) (by kernel_rfl) (fun _ _ _ h => h) (by rfl) ?hh3_22 (by assumption) ?_
                    case hh3_22 => (intro wq hSw; (try dsimp only at hSw); go_simp; (try (with_reducible rfl)))
                    go_frame
                    refine wpAnyH_takeD (some 17) (i := 23) (v := ?vh3_23) rfl rfl (by kernel_rfl) (by kernel_rfl) (by kernel_rfl) (fun _ _ _ h => h) (by rfl) ?hh3_23 (by assumption) ?_
                    case hh3_23 => (intro wq hSw; (try dsimp only at hSw); go_simp; (try (with_reducible rfl)))
                    go_frame
                    refine wpAnyH_done (by kernel_rfl) ?_ _
                    refine NoPanic.normal ?_
                    go_wp2
                    go_roundw
                    case rel => exact ⟨i + 1, ka, true, by omega, by go_num, rfl, rfl, (fun h => ⟨i, by omega, HKa.out h⟩), (fun _ => by obtain ⟨t, ht, e⟩ := HCb.out (by first | exact rfl | exact trivial); exact ⟨t, by omega, e⟩), hV3.drew, hbw3.drew⟩
                    case measure => simp [intOf]; omega
                  · go_wp2
                    refine wp_region_noPanic ?_
                    refine wp_region_held_drew (S := fun w' => rowAt w' b2 (o2 + i * 22) 22 = some vi.cells ∧ rowAt w' w2.heap.size 0 22 = some va.cells ∧ rowAt w' w2.heap.size 23 22 = some vb.cells) (by kernel_rfl) (⟨HRow1.out _ hbw3.drew, HRA.out _ hV3.drew, HRB.out _ hV3.drew⟩) (fun hHeld => ?_)
                    refine wpAnyH_takeD (some 87) (i := 0) (v := ?vh4_0) rfl rfl (by kernel_rfl) (by kernel_rfl) (by kernel_rfl) (fun _ _ _ h => h) (by rfl) ?hh4_0 (by assumption) ?_
                    case hh4_0 => (intro wq hSw; (try dsimp only at hSw); go_simp; (try (with_reducible rfl)))
                    go_frame
                    refine wpAnyH_takeD (some 88) (i := 1) (v := ?vh4_1) rfl rfl (by kernel_rfl) (by kernel_rfl) (by kernel_rfl) (fun _ _ _ h => h) (by rfl) ?hh4_1 (by assumption) ?_
                    case hh4_1 => (intro wq hSw; (try dsimp only at hSw); go_simp; (try (with_reducible rfl)))
                    go_frame
                    refine wpAnyH_skipD (some 89) (i := 2) rfl rfl (by kernel_rfl) (by kernel_rfl) (by kernel_rfl) (fun _ _ _ h => h) (by rfl) (by assumption) ?_
                    go_frame
                    refine wpAnyH_skipD (some 90) (i := 3) rfl rfl (by kernel_rfl) (by kernel_rfl) (by kernel_rfl) (fun _ _ _ h => h) (by rfl) (by assumption) ?_
                    go_frame
                    refine wpAnyH_skipD (some 91) (i := 4) rfl rfl (by kernel_rfl) (by kernel_rfl) (by kernel_rfl) (fun _ _ _ h => h) (by rfl) (by assumption) ?_
                    go_frame
                    refine wpAnyH_skipD (some 92) (i := 5) rfl rfl (by kernel_rfl) (by kernel_rfl) (by kernel_rfl) (fun _ _ _ h => h) (by rfl) (by assumption) ?_
                    go_frame
                    refine wpAnyH_skipD (some 93) (i := 6) rfl rfl (by kernel_rfl) (by kernel_rfl) (by kernel_rfl) (fun _ _ _ h => h) (by rfl) (by assumption) ?_
                    go_frame
                    refine wpAnyH_skipD (some 94) (i := 7) rfl rfl (by kernel_rfl) (by kernel_rfl) (by kernel_rfl) (fun _ _ _ h => h) (by rfl) (by assumption) ?_
                    go_frame
                    refine wpAnyH_skipD (some 95) (i := 8) rfl rfl (by kernel_rfl) (by kernel_rfl) (by kernel_rfl) (fun _ _ _ h => h) (by rfl) (by assumption) ?_
                    go_frame
                    refine wpAnyH_skipD (some 96) (i := 9) rfl rfl (by kernel_rfl) (by kernel_rfl) (by kernel_rfl) (fun _ _ _ h => h) (by rfl) (by assumption) ?_
                    go_frame
                    refine wpAnyH_takeD (some 97) (i := 10) (v := ?vh4_10) rfl rfl (by kernel_rfl) (by kernel_rfl) (by kernel_rfl) (fun _ _ _ h => h) (by rfl) ?hh4_10 (by assumption) ?_
                    case hh4_10 => (intro wq hSw; (try dsimp only at hSw); go_simp; (try (with_reducible rfl)))
                    go_frame
                    refine wpAnyH_takeD (some 98) (i := 11) (v := ?vh4_11) rfl rfl (by kernel_rfl) (by kernel_rfl) (by kernel_rfl) (fun _ _ _ h => h) (by rfl) ?hh4_11 (by assumption) ?_
                    case hh4_11 => (intro wq hSw; (try dsimp only at hSw); go_simp; (try (with_reducible rfl)))
                    go_frame
                    refine wpAnyH_takeD (some 99) (i := 12) (v := ?vh4_12) rfl rfl (by kernel_rfl) (by kernel_rfl) (by kernel_rfl) (fun _ _ _ h => h) (by rfl) ?hh4_12 (by assumption) ?_
                    case hh4_12 => (intro wq hSw; (try dsimp only at hSw); go_simp; (try (with_reducible rfl)))
                    go_frame
                    refine wpAnyH_takeD (some 100) (i := 13) (v := ?vh4_13) rfl rfl (by kernel_rfl) (by kernel_rfl) (by kernel_rfl) (fun _ _ _ h => h) (by rfl) ?hh4_13 (by assumption) ?_
                    case hh4_13 => (intro wq hSw; (try dsimp only at hSw); go_simp; (try (with_reducible rfl)))
                    go_frame
                    refine wpAnyH_takeD (some 101) (i := 14) (v := ?vh4_14) rfl rfl (by kernel_rfl) (by kernel_rfl) (by kernel_rfl) (fun _ _ _ h => h) (by rfl) ?hh4_14 (by assumption) ?_
                    case hh4_14 => (intro wq hSw; (try dsimp only at hSw); go_simp; (try (with_reducible rfl)))
                    go_frame
                    refine wpAnyH_takeD (some 102) (i := 15) (v := ?vh4_15) rfl rfl (by kernel_rfl) (by kernel_rfl) (by kernel_rfl) (fun _ _ _ h => h) (by rfl) ?hh4_15 (by assumption) ?_
                    case hh4_15 => (intro wq hSw; (try dsimp only at hSw); go_simp; (try (with_reducible rfl)))
                    go_frame
                    refine wpAnyH_takeD (some 103) (i := 16) (v := ?vh4_16) rfl rfl (by kernel_rfl) (by kernel_rfl) (by kernel_rfl) (fun _ _ _ h => h) (by rfl) ?hh4_16 (by assumption) ?_
                    case hh4_16 => (intro wq hSw; (try dsimp only at hSw); go_simp; (try (with_reducible rfl)))
                    go_frame
                    refine wpAnyH_takeD (some 104) (i := 17) (v := ?vh4_17) rfl rfl (by kernel_rfl) (by kernel_rfl) (by kernel_rfl) (fun _ _ _ h => h) (by rfl) ?hh4_17 (by assumption) ?_
                    case hh4_17 => (intro wq hSw; (try dsimp only at hSw); go_simp; (try (with_reducible rfl)))
                    go_frame
                    refine wpAnyH_takeD (some 105) (i := 18) (v := ?vh4_18) rfl rfl (by kernel_rfl) (by kernel_rfl) (by kernel_rfl) (fun _ _ _ h => h) (by rfl) ?hh4_18 (by assumption) ?_
                    case hh4_18 => (intro wq hSw; (try dsimp only at hSw); go_simp; (try (with_reducible rfl)))
                    go_frame
                    refine wpAnyH_takeD (some 106) (i := 19) (v := ?vh4_19) rfl rfl (by kernel_rfl) (by kernel_rfl) (by kernel_rfl) (fun _ _ _ h => h) (by rfl) ?hh4_19 (by assumption) ?_
                    case hh4_19 => (intro wq hSw; (try dsimp only at hSw); go_simp; (try (with_reducible rfl)))
                    go_frame
                    refine wpAnyH_takeD (some 107) (i := 20) (v := ?vh4_20) rfl rfl (by kernel_rfl) (by kernel_rfl) (by kernel_rfl) (fun _ _ _ h => h) (by rfl) ?hh4_20 (by assumption) ?_
                    case hh4_20 => (intro wq hSw; (try dsimp only at hSw); go_simp; (try (with_reducible rfl)))
                    go_frame
                    refine wpAnyH_takeD (some 108) (i := 21) (v := ?vh4_21) rfl rfl (by kernel_rfl) (by kernel_rfl) (by kernel_rfl) (fun _ _ _ h => h) (by rfl) ?hh4_21 (by assumption) ?_
                    case hh4_21 => (intro wq hSw; (try dsimp only at hSw); go_simp; (try (with_reducible rfl)))
                    go_frame
                    refine wpAnyH_takeD (some 16) (i := 22) (v := ?vh4_22) rfl rfl (by kernel_rfl) (by kernel_rfl) (by kernel_rfl) (fun _ _ _ h => h) (by rfl) ?hh4_22 (by assumption) ?_
                    case hh4_22 => (intro wq hSw; (try dsimp only at hSw); go_simp; (try (with_reducible rfl)))
                    go_frame
                    refine wpAnyH_takeD (some 17) (i := 23) (v := ?vh4_23) rfl rfl (by kernel_rfl) (by kernel_rfl) (by kernel_rfl) (fun _ _ _ h => h) (by rfl) ?hh4_23 (by assumption) ?_
                    case hh4_23 => (intro wq hSw; (try dsimp only at hSw); go_simp; (try (with_reducible rfl)))
                    go_frame
                    refine wpAnyH_done (by kernel_rfl) ?_ _
                    refine NoPanic.normal ?_
                    go_wp2
                    go_roundw
                    case rel => exact ⟨i + 1, true, kb, by omega, by go_num, rfl, rfl, (fun _ => by obtain ⟨t, ht, e⟩ := HCa.out (by first | exact rfl | exact trivial); exact ⟨t, by omega, e⟩), (fun h => ⟨i, by omega, HKb.out h⟩), hV3.drew, hbw3.drew⟩
                    case measure => simp [intOf]; omega
                  · go_wp2
                    refine wp_region_noPanic ?_
                    refine wp_region_held_drew (S := fun w' => rowAt w' b2 (o2 + i * 22) 22 = some vi.cells ∧ rowAt w' w2.heap.size 0 22 = some va.cells ∧ rowAt w' w2.heap.size 23 22 = some vb.cells) (by kernel_rfl) (⟨HRow1.out _ hbw3.drew, HRA.out _ hV3.drew, HRB.out _ hV3.drew⟩) (fun hHeld => ?_)
                    refine wpAnyH_takeD (some 87) (i := 0) (v := ?vh5_0) rfl rfl (by kernel_rfl) (by kernel_rfl) (by kernel_rfl) (fun _ _ _ h => h) (by rfl) ?hh5_0 (by assumption) ?_
                    case hh5_0 => (intro wq hSw; (try dsimp only at hSw); go_simp; (try (with_reducible rfl)))
                    go_frame
                    refine wpAnyH_takeD (some 88) (i := 1) (v := ?vh5_1) rfl rfl (by kernel_rfl) (by kernel_rfl) (by kernel_rfl) (fun _ _ _ h => h) (by rfl) ?hh5_1 (by assumption) ?_
                    case hh5_1 => (intro wq hSw; (try dsimp only at hSw); go_simp; (try (with_reducible rfl)))
                    go_frame
                    refine wpAnyH_skipD (some 89) (i := 2) rfl rfl (by kernel_rfl) (by kernel_rfl) (by kernel_rfl) (fun _ _ _ h => h) (by rfl) (by assumption) ?_
                    go_frame
                    refine wpAnyH_skipD (some 90) (i := 3) rfl rfl (by kernel_rfl) (by kernel_rfl) (by kernel_rfl) (fun _ _ _ h => h) (by rfl) (by assumption) ?_
                    go_frame
                    refine wpAnyH_skipD (some 91) (i := 4) rfl rfl (by kernel_rfl) (by kernel_rfl) (by kernel_rfl) (fun _ _ _ h => h) (by rfl) (by assumption) ?_
                    go_frame
                    refine wpAnyH_skipD (some 92) (i := 5) rfl rfl (by kernel_rfl) (by kernel_rfl) (by kernel_rfl) (fun _ _ _ h => h) (by rfl) (by assumption) ?_
                    go_frame
                    refine wpAnyH_skipD (some 93) (i := 6) rfl rfl (by kernel_rfl) (by kernel_rfl) (by kernel_rfl) (fun _ _ _ h => h) (by rfl) (by assumption) ?_
                    go_frame
                    refine wpAnyH_skipD (some 94) (i := 7) rfl rfl (by kernel_rfl) (by kernel_rfl) (by kernel_rfl) (fun _ _ _ h => h) (by rfl) (by assumption) ?_
                    go_frame
                    refine wpAnyH_skipD (some 95) (i := 8) rfl rfl (by kernel_rfl) (by kernel_rfl) (by kernel_rfl) (fun _ _ _ h => h) (by rfl) (by assumption) ?_
                    go_frame
                    refine wpAnyH_skipD (some 96) (i := 9) rfl rfl (by kernel_rfl) (by kernel_rfl) (by kernel_rfl) (fun _ _ _ h => h) (by rfl) (by assumption) ?_
                    go_frame
                    refine wpAnyH_takeD (some 97) (i := 10) (v := ?vh5_10) rfl rfl (by kernel_rfl) (by kernel_rfl) (by kernel_rfl) (fun _ _ _ h => h) (by rfl) ?hh5_10 (by assumption) ?_
                    case hh5_10 => (intro wq hSw; (try dsimp only at hSw); go_simp; (try (with_reducible rfl)))
                    go_frame
                    refine wpAnyH_takeD (some 98) (i := 11) (v := ?vh5_11) rfl rfl (by kernel_rfl) (by kernel_rfl) (by kernel_rfl) (fun _ _ _ h => h) (by rfl) ?hh5_11 (by assumption) ?_
                    case hh5_11 => (intro wq hSw; (try dsimp only at hSw); go_simp; (try (with_reducible rfl)))
                    go_frame
                    refine wpAnyH_takeD (some 99) (i := 12) (v := ?vh5_12) rfl rfl (by kernel_rfl) (by kernel_rfl) (by kernel_rfl) (fun _ _ _ h => h) (by rfl) ?hh5_12 (by assumption) ?_
                    case hh5_12 => (intro wq hSw; (try dsimp only at hSw); go_simp; (try (with_reducible rfl)))
                    go_frame
                    refine wpAnyH_skipD (some 100) (i := 13) rfl rfl (by kernel_rfl) (by kernel_rfl) (by kernel_rfl) (fun _ _ _ h => h) (by rfl) (by assumption) ?_
                    go_frame
                    refine wpAnyH_skipD (some 101) (i := 14) rfl rfl (by kernel_rfl) (by kernel_rfl) (by kernel_rfl) (fun _ _ _ h => h) (by rfl) (by assumption) ?_
                    go_frame
                    refine wpAnyH_skipD (some 102) (i := 15) rfl rfl (by kernel_rfl) (by kernel_rfl) (by kernel_rfl) (fun _ _ _ h => h) (by rfl) (by assumption) ?_
                    go_frame
                    refine wpAnyH_skipD (some 103) (i := 16) rfl rfl (by kernel_rfl) (by kernel_rfl) (by kernel_rfl) (fun _ _ _ h => h) (by rfl) (by assumption) ?_
                    go_frame
                    refine wpAnyH_skipD (some 104) (i := 17) rfl rfl (by kernel_rfl) (by kernel_rfl) (by kernel_rfl) (fun _ _ _ h => h) (by rfl) (by assumption) ?_
                    go_frame
                    refine wpAnyH_skipD (some 105) (i := 18) rfl rfl (by kernel_rfl) (by kernel_rfl) (by kernel_rfl) (fun _ _ _ h => h) (by rfl) (by assumption) ?_
                    go_frame
                    refine wpAnyH_skipD (some 106) (i := 19) rfl rfl (by kernel_rfl) (by kernel_rfl) (by kernel_rfl) (fun _ _ _ h => h) (by rfl) (by assumption) ?_
                    go_frame
                    refine wpAnyH_skipD (some 107) (i := 20) rfl rfl (by kernel_rfl) (by kernel_rfl) (by kernel_rfl) (fun _ _ _ h => h) (by rfl) (by assumption) ?_
                    go_frame
                    refine wpAnyH_takeD (some 108) (i := 21) (v := ?vh5_21) rfl rfl (by kernel_rfl) (by kernel_rfl) (by kernel_rfl) (fun _ _ _ h => h) (by rfl) ?hh5_21 (by assumption) ?_
                    case hh5_21 => (intro wq hSw; (try dsimp only at hSw); go_simp; (try (with_reducible rfl)))
                    go_frame
                    refine wpAnyH_takeD (some 16) (i := 22) (v := ?vh5_22) rfl rfl (by kernel_rfl) (by kernel_rfl) (by kernel_rfl) (fun _ _ _ h => h) (by rfl) ?hh5_22 (by assumption) ?_
                    case hh5_22 => (intro wq hSw; (try dsimp only at hSw); go_simp; (try (with_reducible rfl)))
                    go_frame
                    refine wpAnyH_takeD (some 17) (i := 23) (v := ?vh5_23) rfl rfl (by kernel_rfl) (by kernel_rfl) (by kernel_rfl) (fun _ _ _ h => h) (by rfl) ?hh5_23 (by assumption) ?_
                    case hh5_23 => (intro wq hSw; (try dsimp only at hSw); go_simp; (try (with_reducible rfl)))
                    go_frame
                    refine wpAnyH_done (by kernel_rfl) ?_ _
                    refine NoPanic.normal ?_
                    go_wp2
                    go_roundw
                    case rel => exact ⟨i + 1, true, true, by omega, by go_num, rfl, rfl, (fun _ => by obtain ⟨t, ht, e⟩ := HCa.out (by first | exact rfl | exact trivial); exact ⟨t, by omega, e⟩), (fun _ => by obtain ⟨t, ht, e⟩ := HCb.out (by first | exact rfl | exact trivial); exact ⟨t, by omega, e⟩), hV3.drew, hbw3.drew⟩
                    case measure => simp [intOf]; omega
                · obtain rfl : nv = i := by omega
                  have hnot : ¬ (ca = true ∧ cb = true) := fun hh => by
                    obtain ⟨t1, ht1, e1⟩ := HCa.out hh.1
                    obtain ⟨t2, ht2, e2⟩ := HCb.out hh.2
                    have hcf := HCf.out
                    rcases Nat.lt_trichotomy t1 t2 with h | h | h
                    · exact HNo.out t2 t1 ht2 h (by rw [e1, e2]; exact hcf.symm)
                    · subst h; exact hcf.1 (e1.symm.trans e2)
                    · exact HNo.out t1 t2 ht1 h (by rw [e1, e2]; exact hcf)
                  cases ca
                  · clear hnot
                    go_wp2_with ((go_at_call 21; refine (awake10_any _).mono ?_; rintro en w4 ⟨rfl, hb4⟩))
                    go_ret
                    exact ⟨rfl, hbw3.trans (hb4.mono hbw3.size)⟩
                  · cases cb
                    · clear hnot
                      go_wp2_with ((go_at_call 21; refine (awake10_any _).mono ?_; rintro en w4 ⟨rfl, hb4⟩))
                      go_ret
                      exact ⟨rfl, hbw3.trans (hb4.mono hbw3.size)⟩
                    · exact absurd ⟨rfl, rfl⟩ hnot
            · have hnb : (va.signer != (idn : Int)) = true := by simpa using hne
              have hex3 := HEx2.out hne
              have HEx3 := Lib.hid hex3
              clear hne hex3 HEx2
              go_wp2
              go_roundw
              case rel =>
                obtain ⟨b', m', hnx⟩ := HNext.out
                exact ⟨k, at_ + 786, b', m', by go_num, by omega, by omega, by omega, hnx, HEx3.out, hbw3⟩
              case measure => simp [intOf]; omega
      · have hxb : (x != 0) = true := by simpa using hx
        clear hx HRes HCM
        go_wp2_with (first
          | (go_at_call 22; refine (HC.out _ hbw).mono ?_; rintro en w2 ⟨rfl, hb2⟩)
          | (go_at_call 21; refine (awake10_any _).mono ?_; rintro en w3 ⟨rfl, hb3⟩))
        go_ret
        have hbw2 := hbw.trans (hb2.mono hbw.size)
        exact ⟨rfl, hbw2.trans (hb3.mono hbw2.size)⟩

theorem hon_any (K A V : Option Addr) (ck c cv : Nat) (id : Int) (keys : List Nm) (p : List UInt8) (own : List Vt) (w : World) (hK : Rd w w.heap.size K (keys.flatMap nmc)) (hr : Rd w w.heap.size A (p.map B)) (hV : Rd w w.heap.size V (own.flatMap vtc)) (hok : ∀ v ∈ own, v.ok) (hc : p.length ≤ c) (hm : c ≤ maxLen) :
    Calls Try.prog 6 #[.slice K keys.length ck, .slice A p.length c, .int .i64 id, .slice V own.length cv] w (BoolPost w true) := by
  by_cases hv : own.length ≤ 200
  · exact hon_core K A V keys.length ck p.length c own.length cv id keys p own w rfl rfl rfl hv hK hr hV hok hc hm _ rfl (fun W hW => check_any K A ck c keys p W ((hK.below hW).more hW.size) ((hr.below hW).more hW.size) hc hm)
  · exact hon_big K A V keys.length ck p.length c own.length cv id w (by omega)
end Go.Proofs.Ythmecidpjlaonaa
