/-
  checker.Build returns the proof and true for a list that can be built (BuildOk), else nil and false, and changes nothing. Condition: the list lies in memory below the call.
-/
import Derived.Test.YthmecidpjlaonaaGreatSEv
import Derived.Test.YthmecidpjlaonaaGreatHMem2
namespace Go.Proofs.YthmecidpjlaonaaGreat
open Go.RowKit

abbrev evc (e : Ev) : List Value := e.cells.toList
def sgn (e : Ev) : Int := e.a.vote.signer
def GoodUpto (es : List Ev) (k : Nat) : Prop := ∀ i e, i < k → es[i]? = some e → EEncOk e ∧ (∀ j d, es[j]? = some d → j + 1 = i → sgn d < sgn e)
def BuildOk (es : List Ev) : Prop := es ≠ [] ∧ es.length ≤ 10 ∧ GoodUpto es es.length
def lastS (es : List Ev) : Nat → Int
  | 0 => -1
  | k + 1 => match es[k]? with
    | some d => sgn d
    | none => -1
def buildB (es : List Ev) (k : Nat) : List UInt8 := UInt8.ofNat es.length :: (es.take k).flatMap eencB
theorem evc_len (es : List Ev) : ∀ e ∈ es, (evc e).length = 46 := fun e _ => by simp [evc, Ev.size_cells]
def EvsOk (w : World) (B' : Nat) (es : List Ev) : Prop := ∀ e ∈ es, EvOk w B' e

theorem good_succ {es : List Ev} {k : Nat} {e : Ev} (h : GoodUpto es k) (hk : es[k]? = some e) (he : EEncOk e) (hs : lastS es k < sgn e) : GoodUpto es (k + 1) := by
  intro i d hi hd
  rcases Nat.lt_or_ge i k with h1 | h1
  · exact h i d h1 hd
  · obtain rfl : i = k := by omega
    rw [hk] at hd
    injection hd with hd
    subst hd
    refine ⟨he, fun j d hj hjk => ?_⟩
    subst hjk
    simp only [lastS, hj] at hs
    exact hs
theorem good_not {es : List Ev} {k : Nat} {e : Ev} (hk : es[k]? = some e) (h : ¬ EEncOk e ∨ (EEncOk e ∧ ¬ lastS es k < sgn e)) : ¬ BuildOk es := by
  intro hb
  have hlt : k < es.length := (List.getElem?_eq_some_iff.1 hk).1
  have hg := hb.2.2 k e hlt hk
  rcases h with h | ⟨h0, h⟩
  · exact h hg.1
  · apply h
    match k, hk, hg with
    | 0, hk, hg =>
      have := h0.1.1.bounds
      simp only [lastS, sgn]; omega
    | k + 1, hk, hg =>
      have hk' : k < es.length := by omega
      have hd : es[k]? = some es[k] := List.getElem?_eq_getElem hk'
      simp only [lastS, hd]
      exact hg.2 k _ hd rfl
theorem build_succ {es : List Ev} {k : Nat} {e : Ev} (hk : es[k]? = some e) : buildB es (k + 1) = buildB es k ++ eencB e := by
  have hlt : k < es.length := (List.getElem?_eq_some_iff.1 hk).1
  have : es[k] = e := by rw [List.getElem?_eq_getElem hlt] at hk; exact Option.some.inj hk
  simp only [buildB]
  rw [List.take_succ_eq_append_getElem hlt, this]
  simp
theorem eenc_len {e : Ev} (h : EEncOk e) : (eencB e).length = 786 := by
  have h1 := h.1.2
  have h2 := h.2.2
  simp [eencB, sencB, encB, Nm.bytes, h1, h2]
theorem build_len {es : List Ev} : ∀ {k : Nat}, GoodUpto es k → k ≤ es.length → (buildB es k).length = 1 + 786 * k
  | 0, _, _ => by simp [buildB]
  | k + 1, h, hk => by
    have hd : es[k]? = some es[k] := List.getElem?_eq_getElem hk
    rw [build_succ hd, List.length_append, build_len (fun i e hi => h i e (by omega)) (by omega), eenc_len (h k _ (by omega) hd).1]; omega

theorem Sg.one (s : Sg) : ∀ u ∈ s.cells.toList, u.oneCell' = true := by
  intro u hu
  simp [Sg.cells] at hu
  rcases hu with h | h | h | h | h | h | h | h | h | h | h | h | h | h | h | h | h | h | h | h | h | h | h <;> subst h <;> rfl
theorem Ev.one (e : Ev) : ∀ u ∈ e.cells.toList, u.oneCell' = true := by
  intro u hu
  simp only [Ev.cells, Array.toList_append, List.mem_append] at hu
  rcases hu with h | h
  · exact e.a.one u h
  · exact e.b.one u h
theorem own_kept {w w' : World} {base e size n : Nat} {row : Option Nat} {v : Value} {xs : List Value} (h : w.ownsRow base e size v n xs) (hg : w.grownBy w' row) (hr : ∀ k, row = some k → w.heap.size ≤ k ∨ v.ownBlock ≠ some k) : w'.ownsRow base e size v n xs := by
  refine ⟨h.1, ?_⟩
  rcases h.2 with h2 | ⟨g, cap, cur, rfl, h1, hh, r⟩
  · exact .inl h2
  · refine .inr ⟨g, cap, cur, rfl, h1, (hg.block g (lt_of_block hh) ?_).trans hh, r⟩
    intro e
    rcases hr g e.symm with h3 | h3
    · have := lt_of_block hh; omega
    · exact h3 rfl

/-- What Build comes to. -/
def BuildPost (w : World) (es : List Ev) (en : Ending) (w' : World) : Prop :=
  (BuildOk es ∧ RowTrue w 5 1 (1 + 786 * es.length) ((buildB es es.length).map B) en w') ∨ (¬ BuildOk es ∧ RowFalse w en w')

set_option maxRecDepth 100000 in
set_option maxHeartbeats 2000000 in
theorem build_any (A : Option Addr) (c : Nat) (es : List Ev) (w : World) (hr : Rd w w.heap.size A (es.flatMap evc)) (hes : EvsOk w w.heap.size es) (hsmall : es.length ≤ 1000000) :
    Calls Tryz.prog 64 #[.slice A es.length c] w (BuildPost w es) := by
  by_cases h0 : es.length = 0
  · have hn : ¬ BuildOk es := fun h => h.1 (List.eq_nil_of_length_eq_zero h0)
    have HN := Lib.hid hn; clear hn
    have hz : ((es.length : Int) == 0) = true := by rw [h0]; rfl
    clear h0
    go_enter Tryz.func64, Tryz.ntmps64
    go_wp2
    go_ret2
    exact .inr ⟨HN.out, rfl, Below.refl _ _⟩
  have hz : ((es.length : Int) == 0) = false := by rw [beq_eq_false_iff_ne]; omega
  by_cases h10 : 10 < es.length
  · have hn : ¬ BuildOk es := fun h => by have := h.2.1; omega
    have HN := Lib.hid hn; clear hn
    go_enter Tryz.func64, Tryz.ntmps64
    go_wp2
    go_ret2
    exact .inr ⟨HN.out, rfl, Below.refl _ _⟩
  obtain ⟨b, o, rfl, hb, hcell⟩ := hr.cells (by
    intro h
    have := flat_length evc 46 es (evc_len es)
    rw [h] at this
    simp at this; omega)
  have Hes := Lib.hid hes; clear hes
  have Hcell := Lib.hid hcell; clear hcell hr
  have hd10 : decide (10 < (es.length : Int)) = false := by simp; omega
  go_enter Tryz.func64, Tryz.ntmps64
  go_wp2
  go_loopw [4, 5, 24] (fun p q i wr => ∃ k : Nat, k ≤ es.length ∧ i = .int .i64 k ∧ q = .int .i64 (lastS es k) ∧ GoodUpto es k ∧ wr.ownsRow w.heap.size 5 1 p (1 + 786 * k) ((buildB es k).map B) ∧ Below w.heap.size w wr)
    (fun _ _ i _ => es.length - (intOf i).toNat)
  case atStart =>
    refine ⟨0, Nat.zero_le _, rfl, rfl, fun i e hi => absurd hi (by omega), ?_, (Below.refl _ _).alloc (Nat.le_refl _) _⟩
    have e : (buildB es 0).map B = [Value.int .u8 es.length] := by
      simp [buildB]; omega
    rw [e]
    exact World.ownsRow_lit w _ 1 (Nat.le_refl _) (by unfold maxLen; omega) rfl
  case round =>
    obtain ⟨k, hk, rfl, rfl, hgood, hown, hbw⟩ := hrel
    by_cases hlt : k < es.length
    · obtain ⟨e, he⟩ : ∃ e, es[k]? = some e := ⟨_, List.getElem?_eq_getElem hlt⟩
      have He := Lib.hid he; clear he
      have Hgood := Lib.hid hgood; clear hgood
      have hmem : e ∈ es := List.mem_of_getElem? He.out
      have hc : ∀ j u, e.cells[j]? = some u → wr.cell? ⟨b, o + k * 46 + j, none⟩ = some u := by
        intro j u hj
        rw [hbw.cell (p := ⟨b, _, none⟩) hb, Nat.add_assoc]
        refine Hcell.out _ u ?_
        have hj' : j < 46 := by
          have := (Array.getElem?_eq_some_iff.1 hj).1
          rw [Ev.size_cells] at this; exact this
        rw [flat_get evc 46 es (evc_len es) k j e He.out hj']
        simpa [evc] using hj
      have Hc := Lib.hid hc; clear hc
      have HOk : EvOk wr w.heap.size e := (Hes.out e hmem).below hbw
      go_wp2_with (first
        | (refine wpList_load_at rfl 51 (.tmp 26) rfl b (o + k * 46) rfl e.cells _ Hc.out Tryz.underlying51 rfl (by rw [Ev.size_cells]; exact size_evidence) ?_)
        | (refine wpList_store_blk rfl 51 (.tmp 7) (.tmp 27) rfl wr.heap.size e.cells rfl rfl 51 _ (Blk.new wr _ _) ?s1 (by rw [Ev.size_cells]; exact size_evidence) ?s2 ?_))
      case s1 => rw [Ev.size_cells]; rfl
      case s2 => exact e.one
      intro w1 hB1 hg1 hs1
      have hle := hbw.size
      have hbw1 : Below w.heap.size w w1 := (hbw.alloc hbw.size _).grown hg1 (by simp; omega) (by rintro k ⟨⟩; exact hle)
      have hown1 : w1.ownsRow w.heap.size 5 1 u4 (1 + 786 * k) ((buildB es k).map B) := own_kept (hown.alloc _) hg1 (by rintro j ⟨⟩; exact .inr fun h => by have := (hown.lt _ h).2; omega)
      have HOk1 : EvOk w1 w1.heap.size e := ((Hes.out e hmem).below hbw1).more hbw1.size
      clear hg1 hown hbw HOk
      obtain ⟨A0, c0, rfl⟩ := own_form hown1
      go_wp2_with (refine wpList_load_at rfl 51 (.tmp 7) rfl wr.heap.size 0 rfl e.cells _ (fun j u hj => by rw [Nat.zero_add, hB1.cell]; exact hj) Tryz.underlying51 rfl (by rw [Ev.size_cells]; exact size_evidence) ?_)
      by_cases hEnc : EEncOk e
      · have HEnc := Lib.hid hEnc; clear hEnc
        refine (eenc_yes e _ HOk1 HEnc.out).mono ?_
        rintro en w2 ⟨A2, c2, rfl, hown2, hb2⟩
        have hB2 : Blk w2 wr.heap.size 51 e.cells := hB1.below hb2 hB1.lt
        have hbw2 : Below w.heap.size w w2 := hbw1.trans (hb2.mono hbw1.size)
        have hown1' := own_below hown1 hb2 (Nat.le_refl _)
        replace hown2 := own_base hown2 hbw1.size
        clear hown1 hB1 hbw1 hb2
        have c4 : w2.cell? ⟨wr.heap.size, 4, none⟩ = some (I (sgn e)) := (hB2.cell 4).trans e.cell_signer
        by_cases hS : lastS es k < sgn e
        · have hle : decide (sgn e ≤ lastS es k) = false := by simp; omega
          go_wp2_with (at_builtin; refine wpList_app rfl (.tmp 47) (.tmp 48) _ rfl w.heap.size 5 (.int .u8 0) 1 1 Tryz.underlying32 info_byte rfl (by decide) (.slice A0 (1 + 786 * k) c0) (1 + 786 * k) ((buildB es k).map B) rfl ?r0 (w2.heap.size) (A2) (786) (c2) ((eencB e).map B) rfl ?r1 ?r2 ?r3 ?r4 ?r5 ?r6 ?_)
          case r0 => exact hown1'
          case r1 => have := hown2.1; simpa using this
          case r2 => exact Rd.of_own hown2
          case r3 => exact fun u hu => bytes_one hu
          case r4 => omega
          case r5 => unfold maxLen; omega
          case r6 => exact hbw2.size
          intro v3 w3 hown3 hg3 hat3
          have hbw3 : Below w.heap.size w w3 := below_own hbw2 hown1' hg3
          clear hg3 hat3 hown1' hown2 hbw2 hB2 c4
          have HS := Lib.hid hS; clear hS
          go_wp2
          go_roundw
          case rel =>
            refine ⟨k + 1, by omega, by go_num, ?_, good_succ Hgood.out He.out HEnc.out HS.out, ?_, hbw3⟩
            · simp only [lastS, He.out]
            · rw [build_succ He.out, List.map_append]
              have e1 : 1 + 786 * (k + 1) = 1 + 786 * k + 786 := by omega
              rw [e1]; exact hown3
          case measure => simp [intOf]; omega
        · have hle : decide (sgn e ≤ lastS es k) = true := by simp; omega
          have HS := Lib.hid hS; clear hS
          go_wp2
          go_ret2
          exact .inr ⟨good_not He.out (.inr ⟨HEnc.out, Int.not_lt.2 HS.out⟩), rfl, hbw2⟩
      · have HEnc := Lib.hid hEnc; clear hEnc
        refine (eenc_no e _ HOk1 HEnc.out).mono ?_
        rintro en w2 ⟨rfl, hb2⟩
        have hbw2 : Below w.heap.size w w2 := hbw1.trans (hb2.mono hbw1.size)
        go_wp2
        go_ret2
        exact .inr ⟨good_not He.out (.inl HEnc.out), rfl, hbw2⟩
    · obtain rfl : k = es.length := by omega
      have Hgood := Lib.hid hgood; clear hgood
      obtain ⟨A0, c0, rfl⟩ := own_form hown
      go_wp2
      go_ret2
      exact .inl ⟨⟨by rintro rfl; simp at h0, by omega, Hgood.out⟩, A0, c0, rfl, hown, hbw⟩
end Go.Proofs.YthmecidpjlaonaaGreat
