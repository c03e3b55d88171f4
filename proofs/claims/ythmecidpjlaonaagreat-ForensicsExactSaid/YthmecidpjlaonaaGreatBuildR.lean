/-
  The reference's Build returns the proof and true for a list that can be built (BuildOk), else nil and false, and changes nothing. Condition: the list lies in memory below the call.
-/
import Derived.Test.YthmecidpjlaonaaGreatBuild
import Derived.IntWalk
namespace Go.Proofs.YthmecidpjlaonaaGreat
open Go.RowKit

set_option maxRecDepth 100000 in
set_option maxHeartbeats 2000000 in
theorem rbuild_any (A : Option Addr) (c : Nat) (es : List Ev) (w : World) (hr : Rd w w.heap.size A (es.flatMap evc)) (hes : EvsOk w w.heap.size es) (hsmall : es.length ≤ 1000000) :
    Calls Tryz.prog 32 #[.slice A es.length c] w (BuildPost w es) := by
  by_cases h0 : es.length = 0
  · have hn : ¬ BuildOk es := fun h => h.1 (List.eq_nil_of_length_eq_zero h0)
    have HN := Lib.hid hn; clear hn
    have hz : ((es.length : Int) == 0) = true := by rw [h0]; rfl
    clear h0
    go_enter Tryz.func32, Tryz.ntmps32
    go_wp2
    go_ret2
    exact .inr ⟨HN.out, rfl, Below.refl _ _⟩
  have hz : ((es.length : Int) == 0) = false := by rw [beq_eq_false_iff_ne]; omega
  by_cases h10 : 10 < es.length
  · have hn : ¬ BuildOk es := fun h => by have := h.2.1; omega
    have HN := Lib.hid hn; clear hn
    go_enter Tryz.func32, Tryz.ntmps32
    go_wp2
    go_ret2
    exact .inr ⟨HN.out, rfl, Below.refl _ _⟩
  obtain ⟨b, o, rfl, hb, hcell⟩ := hr.cells (by
    intro h
    have := flat_length evc 46 es (evc_len es)
    rw [h] at this
    simp at this; omega)
  have Hes := Lib.hid hes; clear hes
  have Hcell := Lib.hid hcell; clear hcell hr
  have hd10 : decide (10 < (es.length : Int)) = false := by simp; omega
  have HC : Hid (∀ (wr : World) (k : Nat) (e : Ev), Below w.heap.size w wr → es[k]? = some e → ∀ j u, e.cells[j]? = some u → wr.cell? ⟨b, o + k * 46 + j, none⟩ = some u) := by
    intro wr k e hbw he j u hj
    rw [hbw.cell (p := ⟨b, _, none⟩) hb, Nat.add_assoc]
    refine Hcell.out _ u ?_
    have hj' : j < 46 := by
      have := (Array.getElem?_eq_some_iff.1 hj).1
      rw [Ev.size_cells] at this; exact this
    rw [flat_get evc 46 es (evc_len es) k j e he hj']
    simpa [evc] using hj
  go_enter Tryz.func32, Tryz.ntmps32
  go_wp2
  go_loopw [4, 5] (fun p i wr => ∃ k : Nat, k ≤ es.length ∧ i = .int .i64 k ∧ GoodUpto es k ∧ wr.ownsRow w.heap.size 5 1 p (1 + 786 * k) ((buildB es k).map B) ∧ Below w.heap.size w wr)
    (fun _ i _ => es.length - (intOf i).toNat)
  case atStart =>
    refine ⟨0, Nat.zero_le _, rfl, fun i e hi => absurd hi (by omega), ?_, (Below.refl _ _).alloc (Nat.le_refl _) _⟩
    have e : (buildB es 0).map B = [Value.int .u8 es.length] := by
      simp [buildB]; omega
    rw [e]
    exact World.ownsRow_lit w _ 1 (Nat.le_refl _) (by unfold maxLen; omega) rfl
  case round =>
    obtain ⟨k, hk, rfl, hgood, hown, hbw⟩ := hrel
    by_cases hlt : k < es.length
    · obtain ⟨e, he⟩ : ∃ e, es[k]? = some e := ⟨_, List.getElem?_eq_getElem hlt⟩
      have He := Lib.hid he; clear he
      have Hgood := Lib.hid hgood; clear hgood
      have hmem : e ∈ es := List.mem_of_getElem? He.out
      have HOk1 : EvOk wr wr.heap.size e := ((Hes.out e hmem).below hbw).more hbw.size
      obtain ⟨A0, c0, rfl⟩ := own_form hown
      go_wp2_with (refine wpList_load_at rfl 51 (.tmp 29) rfl b (o + k * 46) rfl e.cells _ (HC.out wr k e hbw He.out) Tryz.underlying51 rfl (by rw [Ev.size_cells]; exact size_evidence) ?_)
      by_cases hEnc : EEncOk e
      · have HEnc := Lib.hid hEnc; clear hEnc
        refine (reenc_yes e _ HOk1 HEnc.out).mono ?_
        rintro en w2 ⟨A2, c2, rfl, hown2, hb2⟩
        have hbw2 : Below w.heap.size w w2 := hbw.trans (hb2.mono hbw.size)
        have hown1' := own_below hown hb2 (Nat.le_refl _)
        replace hown2 := own_base hown2 hbw.size
        clear hown hbw hb2
        have c4 : w2.cell? ⟨b, o + k * 46 + 4, none⟩ = some (I (sgn e)) := HC.out w2 k e hbw2 He.out 4 _ e.cell_signer
        by_cases hk0 : k = 0
        · subst hk0
          have hneg : decide ((0 : Int) < ((0 : Nat) : Int)) = false := by decide
          go_wp2
          go_quiet (fail)
          go_wp2_with (at_builtin; refine wpList_app rfl (.tmp 58) (.tmp 59) _ rfl w.heap.size 5 (.int .u8 0) 1 1 Tryz.underlying32 info_byte rfl (by decide) (.slice A0 (1 + 786 * 0) c0) (1 + 786 * 0) ((buildB es 0).map B) rfl ?r0 (w2.heap.size) (A2) (786) (c2) ((eencB e).map B) rfl ?r1 ?r2 ?r3 ?r4 ?r5 ?r6 ?_)
          case r0 => exact hown1'
          case r1 => have := hown2.1; simpa using this
          case r2 => exact (Rd.of_own hown2).drewN _
          case r3 => exact fun u hu => bytes_one hu
          case r4 => omega
          case r5 => unfold maxLen; omega
          case r6 => exact hbw2.size
          intro v3 w3 hown3 hg3 hat3
          have hbw3 : Below w.heap.size w w3 := below_own (below_drewN hbw2 _) hown1' hg3
          clear hg3 hat3 hown1' hown2 hbw2 c4
          go_wp2
          go_roundw
          case rel =>
            refine ⟨0 + 1, by omega, by go_num, good_succ Hgood.out He.out HEnc.out (by have := HEnc.out.1.1.bounds; simp only [lastS, sgn]; omega), ?_, hbw3⟩
            rw [build_succ He.out, List.map_append]
            have e1 : 1 + 786 * (0 + 1) = 1 + 786 * 0 + 786 := by omega
            rw [e1]; exact hown3
          case measure => simp [intOf]; omega
        · obtain ⟨m, rfl⟩ : ∃ m, k = m + 1 := ⟨k - 1, by omega⟩
          obtain ⟨d, hd⟩ : ∃ d, es[m]? = some d := ⟨_, List.getElem?_eq_getElem (by omega)⟩
          have Hd := Lib.hid hd; clear hd
          have c4' : w2.cell? ⟨b, o + m * 46 + 4, none⟩ = some (I (sgn d)) := HC.out w2 m d hbw2 Hd.out 4 _ d.cell_signer
          have hpos : decide ((0 : Int) < ((m + 1 : Nat) : Int)) = true := by simp
          have s1 : IntKind.i64.wrap (((m + 1 : Nat) : Int) - 1) = (m : Int) := by rw [IntKind.wrap_i64]; omega
          by_cases hS : sgn d < sgn e
          · have HS := Lib.hid hS
            have hle : decide (sgn e ≤ sgn d) = false := by simp; omega
            clear hS
            go_wp2
            go_quiet (fail)
            clear c4' s1
            go_wp2_with (at_builtin; refine wpList_app rfl (.tmp 58) (.tmp 59) _ rfl w.heap.size 5 (.int .u8 0) 1 1 Tryz.underlying32 info_byte rfl (by decide) (.slice A0 (1 + 786 * (m + 1)) c0) (1 + 786 * (m + 1)) ((buildB es (m + 1)).map B) rfl ?q0 (w2.heap.size) (A2) (786) (c2) ((eencB e).map B) rfl ?q1 ?q2 ?q3 ?q4 ?q5 ?q6 ?_)
            case q0 => exact hown1'
            case q1 => have := hown2.1; simpa using this
            case q2 => exact (Rd.of_own hown2).drewN _
            case q3 => exact fun u hu => bytes_one hu
            case q4 => omega
            case q5 => unfold maxLen; omega
            case q6 => exact hbw2.size
            intro v3 w3 hown3 hg3 hat3
            have hbw3 : Below w.heap.size w w3 := below_own (below_drewN hbw2 _) hown1' hg3
            clear hg3 hat3 hown1' hown2 hbw2 c4
            go_wp2
            go_roundw
            case rel =>
              refine ⟨(m + 1) + 1, by omega, by go_num, good_succ Hgood.out He.out HEnc.out (by simp only [lastS, Hd.out]; exact HS.out), ?_, hbw3⟩
              rw [build_succ He.out, List.map_append]
              have e1 : 1 + 786 * ((m + 1) + 1) = 1 + 786 * (m + 1) + 786 := by omega
              rw [e1]; exact hown3
            case measure => simp [intOf]; omega
          · have hle : decide (sgn e ≤ sgn d) = true := by simp; omega
            have hS' : ¬ lastS es (m + 1) < sgn e := by simp only [lastS, Hd.out]; exact hS
            have HS := Lib.hid hS'; clear hS hS'
            go_wp2
            go_quiet (fail)
            go_wp2
            go_ret2
            refine .inr ⟨good_not He.out (.inr ⟨HEnc.out, ?_⟩), rfl, below_drewN hbw2 _⟩
            first | exact HS.out | exact Int.not_lt.2 HS.out
      · have HEnc := Lib.hid hEnc; clear hEnc
        refine (reenc_no e _ HOk1 HEnc.out).mono ?_
        rintro en w2 ⟨rfl, hb2⟩
        have hbw2 : Below w.heap.size w w2 := hbw.trans (hb2.mono hbw.size)
        go_wp2
        go_quiet (fail)
        go_wp2
        go_ret2
        exact .inr ⟨good_not He.out (.inl HEnc.out), rfl, below_drewN hbw2 _⟩
    · obtain rfl : k = es.length := by omega
      have Hgood := Lib.hid hgood; clear hgood
      obtain ⟨A0, c0, rfl⟩ := own_form hown
      go_wp2
      go_ret2
      exact .inl ⟨⟨by rintro rfl; simp at h0, by omega, Hgood.out⟩, A0, c0, rfl, hown, hbw⟩
end Go.Proofs.YthmecidpjlaonaaGreat
