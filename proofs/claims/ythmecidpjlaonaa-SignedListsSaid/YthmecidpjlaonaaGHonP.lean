/-
  Plain mathematics of the law CheckerHonest, and the reference's Has. No condition.
-/
import Derived.Test.YthmecidpjlaonaaGExh
namespace Go.Proofs.Ythmecidpjlaonaa
open Go.RowKit

abbrev vtc (v : Vt) : List Value := v.cells.toList
theorem vtc_len (l : List Vt) : ∀ v ∈ l, (vtc v).length = 22 := fun _ _ => rfl
/-- Vote k of a row of votes that is read. -/
theorem Rd.voteRow {w : World} {B' b o : Nat} {l : List Vt} {k : Nat} {v : Vt} (h : Rd w B' (some ⟨b, o, none⟩) (l.flatMap vtc)) (hk : l[k]? = some v) : rowAt w b (o + k * 22) 22 = some v.cells := by
  have hpos := (List.getElem?_eq_some_iff.1 hk).1
  rcases h with h | ⟨b', o', e, hb, hc⟩
  · have := flat_length vtc 22 l (vtc_len l)
    rw [h] at this
    simp at this; omega
  · injection e with e
    injection e with e1 e2
    subst e1; subst e2
    refine rowAt_of (fun j u hu => ?_) rfl
    have hj : j < 22 := by
      have := (List.getElem?_eq_some_iff.1 hu).1
      simpa using this
    rw [Nat.add_assoc]
    refine hc _ u ?_
    rw [flat_get vtc 22 l (vtc_len l) k j v hk hj, ← hu]

/-- Bit i of a set. -/
def hasB (m : Nat) (i : Int) : Bool := decide (0 ≤ i) && (decide (i < 10) && m.testBit i.toNat)
theorem testBit_and (m s : Nat) : (m / 2 ^ s % 2 == 1) = m.testBit s := by
  rw [Nat.testBit_eq_decide_div_mod_eq]; rfl
theorem checkL_nat (keys : List Nm) : ∀ (k : Nat) (l : List UInt8) (before : Int) (m : Nat) (M : Int), checkL keys k l before m = (M, 0) → m < 1024 → ∃ q : Nat, M = (q : Int) ∧ q < 1024
  | 0, l, before, m, M, h, hm => by
    rw [checkL] at h
    exact ⟨m, (congrArg Prod.fst h).symm, hm⟩
  | k + 1, l, before, m, M, h, hm => by
    rw [checkL] at h
    by_cases hz : elemF keys l before = 0
    · rw [if_pos hz] at h
      obtain ⟨hz1, hz2, hf⟩ := elemF_zero hz
      have hb := (faultF_zero hf).1.2.2.1.bounds.2.2.2.2.1
      exact checkL_nat keys k _ _ _ M h (or_lt10 m _ hm (by omega))
    · rw [if_neg hz] at h
      exact absurd (congrArg Prod.snd h) hz
/-- A bit of the answer comes from an element, or was there. -/
theorem checkL_bit (keys : List Nm) (i : Nat) : ∀ (k : Nat) (l : List UInt8) (before : Int) (m : Nat) (M : Nat), checkL keys k l before m = ((M : Int), 0) → M.testBit i = true → m.testBit i = false →
    ∃ j, j < k ∧ (voteA (l.drop (786 * j))).1.signer = (i : Int)
  | 0, l, before, m, M, h, h1, h2 => by
    rw [checkL] at h
    have := congrArg Prod.fst h
    simp at this
    have e : m = M := by omega
    subst e
    rw [h1] at h2; cases h2
  | k + 1, l, before, m, M, h, h1, h2 => by
    rw [checkL] at h
    by_cases hz : elemF keys l before = 0
    · rw [if_pos hz] at h
      obtain ⟨hz1, hz2, hf⟩ := elemF_zero hz
      obtain ⟨sn, hsn⟩ := Int.eq_ofNat_of_zero_le (faultF_zero hf).1.2.2.1.bounds.2.2.2.2.1.1
      by_cases hs : sn = i
      · exact ⟨0, by omega, by simpa [hs] using hsn⟩
      · rw [hsn] at h
        have hb : (m ||| 2 ^ ((sn : Int)).toNat).testBit i = false := by
          rw [Nat.testBit_or, h2, Bool.false_or, Int.toNat_natCast, Nat.testBit_two_pow]
          simpa using hs
        obtain ⟨j, hj, he⟩ := checkL_bit keys i k _ _ _ M h h1 hb
        refine ⟨j + 1, by omega, ?_⟩
        rw [List.drop_drop] at he
        rw [show 786 * (j + 1) = 786 + 786 * j from by omega]
        exact he
    · rw [if_neg hz] at h
      exact absurd (congrArg Prod.snd h) hz
end Go.Proofs.Ythmecidpjlaonaa
