/-
  Two unlike outcomes of one slot, each with a quorum of accepted votes, leave a third of the committee in conflict (plain lists and sets, no program). No condition but those of the theorems.
-/
import Derived.Test.YthmecidpjlaonaaGreatSGFind
import Derived.Test.YthmecidpjlaonaaGreatSGCnt
namespace Go.Proofs.YthmecidpjlaonaaGreat
open Go.RowKit

theorem popF_step (x n : Nat) : popF x (n + 1) = popF x n + (x.testBit n).toNat := by
  rw [Nat.toNat_testBit]; rfl
theorem popF_two (a b : Nat) : ∀ n, popF (a &&& b) n + popF (a ||| b) n = popF a n + popF b n
  | 0 => rfl
  | n + 1 => by
    have h := popF_two a b n
    rw [popF_step, popF_step, popF_step, popF_step, Nat.testBit_and, Nat.testBit_or]
    cases a.testBit n <;> cases b.testBit n <;> simp <;> omega
theorem popF_mono {a b : Nat} (h : ∀ i, i < 10 → a.testBit i = true → b.testBit i = true) : ∀ n, n ≤ 10 → popF a n ≤ popF b n
  | 0, _ => Nat.le_refl _
  | n + 1, hn => by
    have h1 := popF_mono h n (by omega)
    have h2 := h n (by omega)
    rw [popF_step, popF_step]
    cases ha : a.testBit n with
    | false => simp; omega
    | true => rw [h2 ha]; omega
theorem popF_pos {a : Nat} : ∀ n, 0 < popF a n → ∃ i, i < n ∧ a.testBit i = true
  | 0, h => by simp [popF] at h
  | n + 1, h => by
    cases ha : a.testBit n with
    | true => exact ⟨n, by omega, ha⟩
    | false =>
      rw [popF_step, ha] at h
      obtain ⟨i, h1, h2⟩ := popF_pos n (by simpa using h)
      exact ⟨i, by omega, h2⟩

/-- What a quorum of n is, and a third. -/
def quoF (n : Nat) : Nat := n - (n - 1) / 3
def thiF (n : Nat) : Nat := if n < 1 then 0 else (n - 1) / 3 + 1
/-- The set s lies in the set x. -/
def InN (s x : Nat) : Prop := ∀ i, i < 10 → s.testBit i = true → x.testBit i = true
theorem quo_meet {x s t : Nat} (hs : InN s x) (ht : InN t x) (h1 : quoF (popF x 10) ≤ popF s 10) (h2 : quoF (popF x 10) ≤ popF t 10) (hx : 0 < popF x 10) : thiF (popF x 10) ≤ popF (s &&& t) 10 := by
  have h3 := popF_two s t 10
  have h4 : popF (s ||| t) 10 ≤ popF x 10 := popF_mono (fun i hi h => by
    rw [Nat.testBit_or, Bool.or_eq_true] at h
    rcases h with h | h
    · exact hs i hi h
    · exact ht i hi h) 10 (Nat.le_refl _)
  unfold quoF at h1 h2
  unfold thiF
  rw [if_neg (by omega)]
  omega
theorem quo_pos {x : Nat} (hx : 0 < popF x 10) : 0 < quoF (popF x 10) := by unfold quoF; omega

/-- Two votes are for one value. -/
def SameV (a b : Vt) : Prop := a.choice = b.choice ∧ a.value = b.value
instance (a b : Vt) : Decidable (SameV a b) := by unfold SameV; infer_instance
/-- The accepted votes of a slot: out of l, each allowed by others. -/
structure AccS (x : Nat) (p : Nm) (s : Int) (l O : List Vt) : Prop where
  mem : ∀ v ∈ O, v ∈ l
  ok : ∀ v ∈ O, ValidP v ∧ v.parent = p ∧ v.slot = s
  prev : ∀ v ∈ O, v.kind = 3 → 2 ≤ v.round → (∃ S, InN S x ∧ quoF (popF x 10) ≤ popF S 10 ∧ ∀ i, i < 10 → S.testBit i = true → ∃ w ∈ O, w.signer = (i : Int) ∧ w.kind = 4 ∧ w.round = v.round - 1 ∧ (SameV v w ∨ w.choice = 2)) ∧
    ∃ w ∈ O, w.round = v.round - 1 ∧ SameV v w ∧ (w.kind = 4 ∨ w.kind = 3)
  prec : ∀ v ∈ O, v.kind = 4 → v.choice ≠ 2 → ∃ w ∈ O, w.kind = 3 ∧ w.round = v.round ∧ SameV v w
/-- A quorum of accepted Precommits of round r for a value. -/
structure OutS (x : Nat) (O : List Vt) (r c : Int) (val : Nm) : Prop where
  ne : c ≠ 2
  quo : ∃ S, InN S x ∧ quoF (popF x 10) ≤ popF S 10 ∧ ∀ i, i < 10 → S.testBit i = true → ∃ w ∈ O, w.signer = (i : Int) ∧ w.kind = 4 ∧ w.round = r ∧ w.choice = c ∧ w.value = val
/-- A third of the set x has two votes in conflict in L. -/
def Third (x : Nat) (L : List Vt) : Prop := ∃ T, InN T x ∧ thiF (popF x 10) ≤ popF T 10 ∧ ∀ i, i < 10 → T.testBit i = true → ∃ a ∈ L, ∃ b ∈ L, a.signer = (i : Int) ∧ ConfP a b
theorem Third.mono {x : Nat} {L L' : List Vt} (h : Third x L) (hl : ∀ v ∈ L, v ∈ L') : Third x L' := by
  obtain ⟨T, h1, h2, h3⟩ := h
  refine ⟨T, h1, h2, fun i hi ht => ?_⟩
  obtain ⟨a, ha, b, hb, h⟩ := h3 i hi ht
  exact ⟨a, hl a ha, b, hl b hb, h⟩
theorem third_of {x : Nat} {L : List Vt} {S S' : Nat} (hS : InN S x) (hS' : InN S' x) (h1 : quoF (popF x 10) ≤ popF S 10) (h2 : quoF (popF x 10) ≤ popF S' 10) (hx : 0 < popF x 10)
    (h : ∀ i, i < 10 → S.testBit i = true → S'.testBit i = true → ∃ a ∈ L, ∃ b ∈ L, a.signer = (i : Int) ∧ ConfP a b) : Third x L :=
  ⟨S &&& S', fun i hi ht => by rw [Nat.testBit_and, Bool.and_eq_true] at ht; exact hS i hi ht.1, quo_meet hS hS' h1 h2 hx, fun i hi ht => by
    rw [Nat.testBit_and, Bool.and_eq_true] at ht
    exact h i hi ht.1 ht.2⟩
theorem prevote_round {x : Nat} {p : Nm} {s : Int} {l1 l2 O1 O2 : List Vt} (h1 : AccS x p s l1 O1) (h2 : AccS x p s l2 O2) (hx : 0 < popF x 10) {r c : Int} {val : Nm} (ho : OutS x O1 r c val) (hr : 1 ≤ r) :
    ∀ (d : Nat) (v : Vt), v ∈ O2 → v.kind = 3 → v.round = r + 1 + (d : Int) → (v.choice ≠ c ∨ v.value ≠ val) → Third x (l1 ++ l2) := by
  intro d
  induction d with
  | zero =>
    intro v hv hk hrd hne
    obtain ⟨⟨S, hS, hq, hw⟩, _⟩ := h2.prev v hv hk (by omega)
    obtain ⟨S', hS', hq', hw'⟩ := ho.quo
    refine third_of hS hS' hq hq' hx fun i hi ht ht' => ?_
    obtain ⟨a, ha, a1, a2, a3, a4⟩ := hw i hi ht
    obtain ⟨b, hb, b1, b2, b3, b4, b5⟩ := hw' i hi ht'
    obtain ⟨va, pa, sa⟩ := h2.ok a ha
    obtain ⟨vb, pb, sb⟩ := h1.ok b hb
    have hne2 := ho.ne
    refine ⟨a, List.mem_append_right _ (h2.mem a ha), b, List.mem_append_left _ (h1.mem b hb), a1, fun e => ?_, ⟨by omega, by rw [pa, pb], by rw [sa, sb], by omega, by omega⟩, va, vb⟩
    subst e
    rcases a4 with ⟨e1, e2⟩ | e
    · rcases hne with h | h
      · exact h (by omega)
      · exact h (by rw [e2, b5])
    · omega
  | succ d ih =>
    intro v hv hk hrd hne
    obtain ⟨_, w, hw, w1, ⟨w2, w3⟩, w4⟩ := h2.prev v hv hk (by omega)
    rcases w4 with w4 | w4
    · obtain ⟨vv, _, _⟩ := h2.ok v hv
      have hc := (vv.2.2.2.2.2.1 hk).2.2.1
      obtain ⟨u, hu, u1, u2, u3, u4⟩ := h2.prec w hw w4 (by omega)
      refine ih u hu u1 (by push_cast at hrd ⊢; omega) ?_
      rcases hne with h | h
      · exact .inl (by omega)
      · exact .inr (by rw [← u4, ← w3]; exact h)
    · refine ih w hw w4 (by push_cast at hrd ⊢; omega) ?_
      rcases hne with h | h
      · exact .inl (by omega)
      · exact .inr (by rw [← w3]; exact h)
theorem out_some {x : Nat} {O : List Vt} {r c : Int} {val : Nm} (ho : OutS x O r c val) (hx : 0 < popF x 10) : ∃ w ∈ O, w.kind = 4 ∧ w.round = r ∧ w.choice = c ∧ w.value = val := by
  obtain ⟨S, _, hq, hw⟩ := ho.quo
  obtain ⟨i, hi, ht⟩ := popF_pos 10 (Nat.lt_of_lt_of_le (quo_pos hx) hq)
  obtain ⟨w, hw, _, r⟩ := hw i hi ht
  exact ⟨w, hw, r⟩
theorem two_rounds {x : Nat} {p : Nm} {s : Int} {l1 l2 O1 O2 : List Vt} (h1 : AccS x p s l1 O1) (h2 : AccS x p s l2 O2) (hx : 0 < popF x 10) {r r' c c' : Int} {val val' : Nm} (ho : OutS x O1 r c val) (ho' : OutS x O2 r' c' val') (hr : 1 ≤ r) (hlt : r < r') (hne : val ≠ val') :
    Third x (l1 ++ l2) := by
  obtain ⟨w, hw, w1, w2, w3, w4⟩ := out_some ho' hx
  obtain ⟨u, hu, u1, u2, u3, u4⟩ := h2.prec w hw w1 (by rw [w3]; exact ho'.ne)
  refine prevote_round h1 h2 hx ho hr (u.round - (r + 1)).toNat u hu u1 (by omega) (.inr ?_)
  rw [← u4, w4]
  exact fun e => hne e.symm
/-- THE THEOREM: unlike outcomes of one slot leave a third in conflict. -/
theorem unlike_third {x : Nat} {p : Nm} {s : Int} {l1 l2 O1 O2 : List Vt} (h1 : AccS x p s l1 O1) (h2 : AccS x p s l2 O2) (hx : 0 < popF x 10) {r r' c c' : Int} {val val' : Nm} (ho : OutS x O1 r c val) (ho' : OutS x O2 r' c' val') (hne : val ≠ val') :
    Third x (l1 ++ l2) := by
  obtain ⟨w, hw, w1, w2, _, _⟩ := out_some ho hx
  obtain ⟨u, hu, u1, u2, _, _⟩ := out_some ho' hx
  have k1 := ((h1.ok w hw).1.2.2.2.2.2.2.1 w1).2.1.1
  have k2 := ((h2.ok u hu).1.2.2.2.2.2.2.1 u1).2.1.1
  by_cases e : r = r'
  · obtain ⟨S, hS, hq, hw⟩ := ho.quo
    obtain ⟨S', hS', hq', hw'⟩ := ho'.quo
    refine third_of hS hS' hq hq' hx fun i hi ht ht' => ?_
    obtain ⟨a, ha, a1, a2, a3, a4, a5⟩ := hw i hi ht
    obtain ⟨b, hb, b1, b2, b3, b4, b5⟩ := hw' i hi ht'
    obtain ⟨va, pa, sa⟩ := h1.ok a ha
    obtain ⟨vb, pb, sb⟩ := h2.ok b hb
    refine ⟨a, List.mem_append_left _ (h1.mem a ha), b, List.mem_append_right _ (h2.mem b hb), a1, fun e => ?_, ⟨by omega, by rw [pa, pb], by rw [sa, sb], by omega, by omega⟩, va, vb⟩
    subst e
    exact hne (by rw [← a5, ← b5])
  · by_cases h : r < r'
    · exact two_rounds h1 h2 hx ho ho' (by omega) h hne
    · exact (two_rounds h2 h1 hx ho' ho (by omega) (by omega) (fun e => hne e.symm)).mono fun v hv => by
        rcases List.mem_append.1 hv with h | h
        · exact List.mem_append_right _ h
        · exact List.mem_append_left _ h
/-- The third that is in conflict is guilty. -/
theorem third_guilty {keys : List Nm} {L : List VS} {x g : Nat} {l : List Vt} (h : Third x l) (hl : ∀ v ∈ l, ∃ y ∈ L, y.1 = v ∧ verK keys y.1 y.2 = true) (hg : ∀ i, i < 10 → x.testBit i = true → GuiltyP keys L i → g.testBit i = true) : thiF (popF x 10) ≤ popF g 10 := by
  obtain ⟨T, h1, h2, h3⟩ := h
  refine Nat.le_trans h2 (popF_mono (fun i hi ht => ?_) 10 (Nat.le_refl _))
  obtain ⟨a, ha, b, hb, hs, hc⟩ := h3 i hi ht
  obtain ⟨y, hy, e1, e2⟩ := hl a ha
  obtain ⟨z, hz, f1, f2⟩ := hl b hb
  exact hg i hi (h1 i hi ht) ⟨y, hy, z, hz, by rw [e1]; exact hs, by rw [e1, f1]; exact hc, e2, f2⟩
end Go.Proofs.YthmecidpjlaonaaGreat
