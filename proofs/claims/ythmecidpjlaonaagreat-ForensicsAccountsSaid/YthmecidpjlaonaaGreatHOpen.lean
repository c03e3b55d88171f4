/-
  How the arguments of the laws are read: bytes, names, votes, signed votes, evidence, and slices of these. No condition but the form's own reach.
  What came in, opened: a signed vote with its signature's capacity, a name, a vote, a byte by themselves. No condition.
  What came in, opened: evidence with its signatures' capacities; structs and names by themselves. No condition.
-/
import Derived.Test.YthmecidpjlaonaaGreatSBuild
import Derived.ProofKit
import Derived.OpenShut
import Derived.Deep.Slices
import Derived.SizedLaws
import Derived.Test.YthmecidpjlaonaaGreatHRVer
namespace Go.Proofs.YthmecidpjlaonaaGreat
open Go.ChangeShapes Go.WideShapes Go.ChangeAt Go.RowKit Go.Deep

theorem cells5 : Tryz.prog.cellsOf 5 = 1 := by kernel_rfl
theorem cells3 : Tryz.prog.cellsOf 3 = 1 := by kernel_rfl
theorem cells30 : Tryz.prog.cellsOf 27 = 1 := by kernel_rfl
theorem cells23 : Tryz.prog.cellsOf 32 = 1 := by kernel_rfl
theorem cells39 : Tryz.prog.cellsOf 29 = 8 := by kernel_rfl
theorem cells41 : Tryz.prog.cellsOf 31 = 22 := by kernel_rfl
theorem cells43 : Tryz.prog.cellsOf 34 = 23 := by kernel_rfl
theorem bytes5 : Tryz.prog.bytesOf 5 = 1 := by kernel_rfl

section
variable {H : Type} {enc : TypeId × Value → H} {w : World} {base : Nat} {spare : Nat → Bool} {held : Bool}

theorem wf_byte {n : Int} (h : (Lit.int .u8 n).wf = true) : .int .u8 n = B (UInt8.ofNat n.toNat) := by
  have hx : 0 ≤ n ∧ n ≤ 255 := by simpa [Lit.wf, IntKind.min, IntKind.max, IntKind.signed, IntKind.bits] using h
  rw [Value.int.injEq]
  refine ⟨rfl, ?_⟩
  simp; omega
theorem wf_int {n : Int} (h : (Lit.int .i64 n).wf = true) : -9223372036854775808 ≤ n ∧ n ≤ 9223372036854775807 := by
  simpa [Lit.wf, IntKind.min, IntKind.max, IntKind.signed, IntKind.bits] using h

theorem open_byte {fuel : Nat} {cs : List Value} {x : DataW H × List MemPlace} (h : DataW.trod enc Tryz.prog w base spare held fuel 5 cs = some x) : ∃ b : UInt8, cs = [B b] := by
  obtain ⟨n, rfl, _, hw⟩ := DataW.trod_int Tryz.underlying5 h
  exact ⟨_, by rw [wf_byte hw]⟩

theorem open_name {fuel : Nat} {cs : List Value} {x : DataW H × List MemPlace} (h : DataW.trod enc Tryz.prog w base spare held fuel 29 cs = some x) :
    ∃ n : Nm, cs = [B n.b0, B n.b1, B n.b2, B n.b3, B n.b4, B n.b5, B n.b6, B n.b7] := by
  obtain ⟨xs, m, _, _, hlen, hx, hf⟩ := DataW.trod_array Tryz.underlying29 h
  rw [cells39] at hlen
  rw [cells5] at hf
  match cs, hlen with
  | [c0, c1, c2, c3, c4, c5, c6, c7], _ =>
    have key : ∀ i, i < 8 → ∃ b : UInt8, (([c0, c1, c2, c3, c4, c5, c6, c7] : List Value).drop (i * 1)).take 1 = [B b] := fun i hi => by
      have := hf i hi
      rw [List.getElem?_eq_getElem (by omega)] at this
      exact open_byte this
    obtain ⟨b0, h0⟩ := key 0 (by omega)
    obtain ⟨b1, h1⟩ := key 1 (by omega)
    obtain ⟨b2, h2⟩ := key 2 (by omega)
    obtain ⟨b3, h3⟩ := key 3 (by omega)
    obtain ⟨b4, h4⟩ := key 4 (by omega)
    obtain ⟨b5, h5⟩ := key 5 (by omega)
    obtain ⟨b6, h6⟩ := key 6 (by omega)
    obtain ⟨b7, h7⟩ := key 7 (by omega)
    simp at h0 h1 h2 h3 h4 h5 h6 h7
    exact ⟨⟨b0, b1, b2, b3, b4, b5, b6, b7⟩, by simp [h0, h1, h2, h3, h4, h5, h6, h7]⟩

set_option maxRecDepth 100000 in
theorem open_vote {fuel : Nat} {cs : List Value} {x : DataW H × List MemPlace} (h : DataW.trod enc Tryz.prog w base spare held fuel 31 cs = some x) :
    ∃ v : Vt, cs = v.cells.toList ∧ v.ok := by
  obtain ⟨xs, m, _, _, hlen, hx, hf⟩ := DataW.trod_struct Tryz.underlying31 h
  rw [cells41] at hlen
  match cs, hlen with
  | [c0, c1, c2, c3, c4, c5, c6, c7, c8, c9, c10, c11, c12, c13, c14, c15, c16, c17, c18, c19, c20, c21], _ =>
    have key := fun i f (hi : _) => (hf i f hi).trans (List.getElem?_eq_getElem (show i < xs.length by rw [hx]; exact (Array.getElem?_eq_some_iff.1 hi).1))
    obtain ⟨k0, h0, _, _⟩ := DataW.trod_int Tryz.underlying3 (key 0 _ rfl)
    obtain ⟨k1, h1, _, _⟩ := DataW.trod_int Tryz.underlying3 (key 1 _ rfl)
    obtain ⟨k2, h2, _, _⟩ := DataW.trod_int Tryz.underlying3 (key 2 _ rfl)
    obtain ⟨k3, h3, _, _⟩ := DataW.trod_int Tryz.underlying3 (key 3 _ rfl)
    obtain ⟨k4, h4, _, _⟩ := DataW.trod_int Tryz.underlying3 (key 4 _ rfl)
    obtain ⟨k5, h5, _, w5⟩ := DataW.trod_int Tryz.underlying27 (key 5 _ rfl)
    obtain ⟨n6, h6⟩ := open_name (key 6 _ rfl)
    obtain ⟨n7, h7⟩ := open_name (key 7 _ rfl)
    simp [cells3, cells30, cells39] at h0 h1 h2 h3 h4 h5 h6 h7
    refine ⟨⟨k0, k1, k2, k3, k4, k5, n6, n7⟩, ?_, wf_int w5⟩
    simp [h0, h1, h2, h3, h4, h5, h6, h7]

/-- A slice of bytes that came in. -/
theorem open_bytes {fuel : Nat} {cs : List Value} {x : DataW H × List MemPlace} (h : DataW.trod enc Tryz.prog w base spare held fuel 32 cs = some x) (hw : ∀ k ∈ x.1.weights Tryz.prog 32, k ≤ reachBytes) :
    ∃ (A : Option Addr) (l : List UInt8) (cap : Nat), cs = [.slice A l.length cap] ∧ Rd w w.heap.size A (l.map B) ∧ l.length ≤ cap ∧ cap ≤ maxLen ∧ l.length ≤ 140737488351232 := by
  rcases open_ints Tryz.underlying32 Tryz.underlying5 cells5 h with ⟨rfl, _⟩ | ⟨a, len, cap, zs, rfl, _, hl, hm, hz, rfl, hcell, hwz⟩
  · exact ⟨none, [], 0, rfl, .inl rfl, Nat.le_refl _, Nat.zero_le _, by simp⟩
  · have hzl : len ≤ zs.length := by rw [hz]; split <;> omega
    refine ⟨some a, (zs.take len).map fun n => UInt8.ofNat n.toNat, cap, by simp; omega, ?_, by simp; omega, hm, ?_⟩
    · by_cases h0 : len = 0
      · subst h0; exact .inl (by simp)
      · have hc0 := hcell 0 (by omega)
        obtain ⟨b, off, spot⟩ := a
        have hspot : spot = none := by simpa [Addr.add] using World.cell?_spot hc0
        subst hspot
        refine .inr ⟨b, off, rfl, ?_, fun j u hu => ?_⟩
        · exact block_lt_of_cell (by simpa [Addr.add] using hc0)
        · have hj : j < len := by
            have := (List.getElem?_eq_some_iff.1 hu).1
            simp at this; omega
          have hc := hcell j (by omega)
          rw [Addr.add_mid] at hc
          rw [hc, ← hu]
          have hzj : zs[j]? = some zs[j] := List.getElem?_eq_getElem (by omega)
          simp only [List.getElem?_map, List.getElem?_take, hj, if_true, hzj, Option.map_some, List.getD_eq_getElem?_getD, Option.getD_some]
          rw [wf_byte (hwz _ (List.getElem_mem _))]
    · have := hw ((lits IntKind.u8 (zs.take len)).length + (lits IntKind.u8 (zs.drop len)).length) (by simp [DataW.weights, Tryz.underlying32, bytes5]; exact Or.inl rfl)
      simp only [lits, List.length_map, List.length_take, List.length_drop, reachBytes] at this
      simp; omega

theorem mem_weightsEach {ts : List TypeId} {ds : List (DataW H)} (hw : ∀ k ∈ DataW.weightsEach Tryz.prog ts ds, k ≤ reachBytes) {j : Nat} {t : TypeId} {d : DataW H} (ht : ts[j]? = some t) (hd : ds[j]? = some d) : ∀ k ∈ d.weights Tryz.prog t, k ≤ reachBytes :=
  fun k hk => hw k (DataW.weights_mem_each ht hd k hk)
theorem mem_weightsAll {e : TypeId} : ∀ {ds : List (DataW H)} {d : DataW H}, d ∈ ds → ∀ k ∈ d.weights Tryz.prog e, k ∈ DataW.weightsAll Tryz.prog e ds
  | d0 :: r, d, hd, k, hk => by
    rw [DataW.weightsAll, List.mem_append]
    rcases List.mem_cons.1 hd with rfl | h
    · exact .inl hk
    · exact .inr (mem_weightsAll h k hk)

/-- A slice that came in, of elements that are opened by a law of their own. -/
theorem open_list {α : Type} (f : α → List Value) (m : Nat) (ok : α → Prop) {t e : TypeId} (ht : Tryz.prog.underlying t = some (.slice e)) (hm : Tryz.prog.cellsOf e = m) (hpos : 0 < m)
    (hopen : ∀ (n : Nat) (cs : List Value) (x : DataW H × List MemPlace), DataW.trod enc Tryz.prog w base spare held n e cs = some x → (∀ k ∈ x.1.weights Tryz.prog e, k ≤ reachBytes) → ∃ a, cs = f a ∧ ok a) (hf : ∀ a, (f a).length = m)
    {fuel : Nat} {cs : List Value} {x : DataW H × List MemPlace} (h : DataW.trod enc Tryz.prog w base spare held fuel t cs = some x) (hw : ∀ k ∈ x.1.weights Tryz.prog t, k ≤ reachBytes) :
    ∃ (A : Option Addr) (l : List α) (cap : Nat), cs = [.slice A l.length cap] ∧ Rd w w.heap.size A (l.flatMap f) ∧ (∀ a ∈ l, ok a) ∧ l.length ≤ cap ∧ cap ≤ maxLen ∧ l.length * Tryz.prog.bytesOf e ≤ reachBytes := by
  rcases open_slice ht h with ⟨rfl, _⟩ | ⟨a, len, cap, mm, n, D, Pl, rfl, _, hl, hmx, hmm, rfl, hi⟩
  · exact ⟨none, [], 0, rfl, .inl rfl, by simp, Nat.le_refl _, Nat.zero_le _, by simp⟩
  · have hle : len ≤ mm := by rw [hmm]; split <;> omega
    simp only [DataW.weights, ht] at hw
    have hel : ∀ i, i < len → ∃ b : α, w.cells? base (a.add (i * m)) m = some (f b) ∧ ok b := by
      intro i hi0
      obtain ⟨cs', hc, htr⟩ := hi i (by omega)
      rw [hm] at hc
      obtain ⟨b, rfl, hok⟩ := hopen n cs' _ htr (fun k hk => hw k (by
        rw [List.mem_cons, List.mem_append]
        refine .inr (.inl (mem_weightsAll (d := D i) ?_ k hk))
        exact List.mem_map.2 ⟨i, List.mem_range.2 hi0, rfl⟩))
      exact ⟨b, hc, hok⟩
    obtain ⟨l, hll, hlp⟩ : ∃ l : List α, l.length = len ∧ ∀ i b, l[i]? = some b → w.cells? base (a.add (i * m)) m = some (f b) ∧ ok b := by
      clear hi hmm hw h hle hl
      induction len with
      | zero => exact ⟨[], rfl, by simp⟩
      | succ k ih =>
        obtain ⟨l, h1, h2⟩ := ih (fun i hi0 => hel i (by omega))
        obtain ⟨b, hb⟩ := hel k (by omega)
        refine ⟨l ++ [b], by simp [h1], fun i c hc => ?_⟩
        rcases Nat.lt_or_ge i k with hik | hik
        · rw [List.getElem?_append_left (by omega)] at hc
          exact h2 i c hc
        · rw [List.getElem?_append_right (by omega), h1] at hc
          have : i - k = 0 := by
            rcases Nat.eq_zero_or_pos (i - k) with h0 | h0
            · exact h0
            · rw [List.getElem?_eq_none (by simp; omega)] at hc; cases hc
          obtain rfl : i = k := by omega
          rw [this] at hc
          simp at hc
          subst hc
          exact hb
    refine ⟨some a, l, cap, by rw [hll], ?_, fun b hb => ?_, by omega, hmx, ?_⟩
    · by_cases h0 : len = 0
      · exact .inl (by rw [List.eq_nil_of_length_eq_zero (hll.trans h0)]; rfl)
      · obtain ⟨b0, hb0⟩ : ∃ b0, l[0]? = some b0 := ⟨_, List.getElem?_eq_getElem (by omega)⟩
        obtain ⟨_, hcl, hat⟩ := World.cells?_some (hlp 0 b0 hb0).1
        have hc0 := hat 0 hpos
        rw [List.getElem?_eq_getElem (by rw [hf]; exact hpos)] at hc0
        obtain ⟨bb, off, spot⟩ := a
        have hspot : spot = none := by simpa [Addr.add] using World.cell?_spot hc0
        subst hspot
        refine .inr ⟨bb, off, rfl, ?_, fun j u hu => ?_⟩
        · exact block_lt_of_cell (by simpa [Addr.add] using hc0)
        · have hjl : j < l.length * m := by
            have := (List.getElem?_eq_some_iff.1 hu).1
            rwa [flat_length f m l (fun x _ => hf x)] at this
          have hdm := Nat.div_add_mod j m
          have hmod : j % m < m := Nat.mod_lt _ hpos
          have hdiv : j / m < l.length := (Nat.div_lt_iff_lt_mul hpos).2 hjl
          have hb : l[j / m]? = some l[j / m] := List.getElem?_eq_getElem hdiv
          obtain ⟨_, _, hat'⟩ := World.cells?_some (hlp _ _ hb).1
          have hc := hat' (j % m) hmod
          rw [← flat_get f m l (fun x _ => hf x) (j / m) (j % m) _ hb hmod, show j / m * m + j % m = j from by rw [Nat.mul_comm]; exact hdm, hu] at hc
          rw [Addr.add_mid, Addr.add_mid, show off + j / m * m + j % m = off + j from by rw [Nat.add_assoc, Nat.mul_comm (j / m) m, hdm]] at hc
          exact hc
    · obtain ⟨i, hi0⟩ := List.getElem?_of_mem hb
      exact (hlp i b hi0).2
    · have := hw ((((List.range len).map D).length + ((List.range (mm - len)).map fun j => D (len + j)).length) * Tryz.prog.bytesOf e) (List.mem_cons_self ..)
      simp only [List.length_map, List.length_range] at this
      refine Nat.le_trans (Nat.mul_le_mul_right _ ?_) this
      omega
end
end Go.Proofs.YthmecidpjlaonaaGreat
namespace Go.Proofs.YthmecidpjlaonaaGreat
open Go.ChangeShapes Go.WideShapes Go.ChangeAt Go.RowKit
variable {H : Type} {enc : TypeId × Value → H} {w : World} {base : Nat} {spare : TypeId → Bool} {held : Bool}

set_option maxRecDepth 100000 in
theorem open_signed2 {fuel : Nat} {cs : List Value} {x : DataW H × List MemPlace} (h : DataW.trod enc Tryz.prog w base spare held fuel 34 cs = some x) (hw : ∀ k ∈ x.1.weights Tryz.prog 34, k ≤ reachBytes) :
    ∃ s : Sg, cs = s.cells.toList ∧ SgOk w w.heap.size s ∧ SgCap s := by
  obtain ⟨xs, m, _, rfl, hlen, hx, hf⟩ := DataW.trod_struct Tryz.underlying34 h
  rw [cells43] at hlen
  have key := fun i f (hi : _) => (hf i f hi).trans (List.getElem?_eq_getElem (show i < xs.length by rw [hx]; exact (Array.getElem?_eq_some_iff.1 hi).1))
  have hx2 : xs.length = 2 := hx
  simp only [DataW.weights, Tryz.underlying34] at hw
  obtain ⟨v, hv, hok⟩ := open_vote (key 0 _ rfl)
  obtain ⟨A, l, cap, hs, hr, hl, hm, hz⟩ := open_bytes (key 1 _ rfl) (mem_weightsEach hw (j := 1) (t := 32) rfl (by simp [hx2]))
  refine ⟨⟨v, l, A, cap⟩, ?_, ⟨hok, hr, hz⟩, hl, hm⟩
  change List.take (Tryz.prog.cellsOf 31) (List.drop 0 cs) = _ at hv
  change List.take (Tryz.prog.cellsOf 32) (List.drop 22 cs) = _ at hs
  rw [cells41] at hv
  rw [cells23] at hs
  have e : cs = cs.take 22 ++ (cs.drop 22) := (List.take_append_drop 22 cs).symm
  have e2 : (cs.drop 22).take 1 = cs.drop 22 := List.take_of_length_le (by simp; omega)
  rw [List.drop_zero] at hv
  rw [e, hv, ← e2, hs]
  simp [Sg.cells]
end Go.Proofs.YthmecidpjlaonaaGreat
namespace Go.Proofs.YthmecidpjlaonaaGreat
open Go.ChangeShapes Go.WideShapes Go.ChangeAt Go.RowKit
variable {H : Type} {enc : TypeId × Value → H} {w : World} {base : Nat} {spare : TypeId → Bool} {held : Bool}

theorem agg_of {v : Value} {cs ds : Array Value} (h : v = .agg cs) (hv : v.cells.toList = ds.toList) : v = .agg ds := by
  subst h
  have : cs.toList = ds.toList := hv
  rw [Array.toList_inj.1 this]
theorem okWide_array {P : Program} {w : World} {r : Reach} {base : Nat} {t : TypeId} {v : Value} {n : Nat} {e : TypeId} (ht : P.underlying t = some (.array n e)) (h : Value.okWide P w r base t v) : ∃ cs, v = .agg cs := by
  simp only [Value.okWide, ht] at h
  obtain ⟨cs, h1, _⟩ := h
  exact ⟨cs, h1⟩
end Go.Proofs.YthmecidpjlaonaaGreat
