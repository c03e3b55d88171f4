/-
  Rows of votes in memory. No condition.
  The program's Votes. Condition: the list lies in memory below the call.
-/
import Derived.Test.YthmecidpjlaonaaGreatHSgs
import Derived.Test.YthmecidpjlaonaaGreatSGPCan
import Derived.Deep.DeepCutAuto
namespace Go.Proofs.YthmecidpjlaonaaGreat
open Go.RowKit

abbrev vtc (v : Vt) : List Value := v.cells.toList
theorem vtc_len (l : List Vt) : ∀ v ∈ l, (vtc v).length = 22 := fun _ _ => rfl
/-- Vote k of a row of votes that is read. -/
theorem Rd.voteRow {w : World} {B' b o : Nat} {l : List Vt} {k : Nat} {v : Vt} (h : Rd w B' (some ⟨b, o, none⟩) (l.flatMap vtc)) (hk : l[k]? = some v) : rowAt w b (o + k * 22) 22 = some v.cells := by
  have hpos := (List.getElem?_eq_some_iff.1 hk).1
  rcases h with h | ⟨b', o', e, hb, hc⟩
  · have := flat_length vtc 22 l (vtc_len l)
    rw [h] at this
    simp at this; omega
  · injection e with e
    injection e with e1 e2
    subst e1; subst e2
    refine rowAt_of (fun j u hu => ?_) rfl
    have hj : j < 22 := by
      have := (List.getElem?_eq_some_iff.1 hu).1
      simpa using this
    rw [Nat.add_assoc]
    refine hc _ u ?_
    rw [flat_get vtc 22 l (vtc_len l) k j v hk hj, ← hu]
end Go.Proofs.YthmecidpjlaonaaGreat
namespace Go.Proofs.YthmecidpjlaonaaGreat
open Go.RowKit
attribute [local go_sem ↓] Go.wp_at_zero Go.wp_at_succ loadNm loadVt loadSg loadEv
attribute [local go_sem] runNm runVt runSg runEv pickRow_some rowAt_drew rowAt_drewN
theorem info_vote : (Tryz.prog.info? 31).map (fun i => (i.zero, i.size, i.bytes)) = some (some (.agg zeroV.cells), 22, 64) := by kernel_rfl

/-- A list of votes in memory of its own. -/
def VtPost (w : World) (L : List Vt) (e : Ending) (w' : World) : Prop :=
  ∃ v : Value, e = .returned v ∧ Below w.heap.size w w' ∧ w'.ownsRow w.heap.size 31 22 v L.length (L.flatMap vtc)
/-- Where the loops of Votes stand. -/
def VtsRel (l : List Sg) (w : World) (n : Nat) (v iv : Value) (wr : World) : Prop :=
  ∃ (i : Nat), iv = .int .i64 (i : Int) ∧ i ≤ n ∧ wr.ownsRow w.heap.size 31 22 v i (((l.take i).map (·.vote)).flatMap vtc) ∧ Below w.heap.size w wr

set_option maxRecDepth 100000 in
set_option maxHeartbeats 4000000 in
theorem pvotes_any (A0 : Option Addr) (n0 c0 : Nat) (l0 : List Sg) (w0 : World) (hn : l0.length = n0) (hr : Rd w0 w0.heap.size A0 (l0.flatMap sgc)) (hok : SgsOk w0 w0.heap.size l0) (hsmall0 : n0 ≤ 1000000) :
    Calls Tryz.prog 37 #[.slice A0 n0 c0] w0 (VtPost w0 ((canF (l0.map Sg.vs)).map (·.1))) := by
  have HCan : Hid (Calls Tryz.prog 43 #[.slice A0 n0 c0] w0 (CanPost w0 (l0.map Sg.vs))) := pcan_any A0 n0 c0 l0 w0 hn hr hok hsmall0
  have hlim : (canF (l0.map Sg.vs)).length ≤ 1000000 := by have := canF_len (l0.map Sg.vs); rw [List.length_map] at this; omega
  obtain ⟨D, hD⟩ : ∃ D, D = canF (l0.map Sg.vs) := ⟨_, rfl⟩
  rw [← hD] at hlim ⊢
  have HD := Lib.hid hD
  clear hn hr hok hD
  go_enter Tryz.func37, Tryz.ntmps37
  go_wp2_with fail
  refine HCan.out.mono ?_
  rintro en w ⟨l, v, rfl, hb0, hown0, hok0, he0⟩
  rw [← HD.out] at he0
  obtain ⟨A, c, rfl, hr, hc, hm, _⟩ := own_slice hown0 rfl hok0
  have HE := Lib.hid he0
  have hsmall : l.length ≤ 1000000 := by have := congrArg List.length he0; rw [List.length_map] at this; omega
  obtain ⟨n, hn⟩ : ∃ n, l.length = n := ⟨_, rfl⟩
  rw [hn] at hsmall hc ⊢
  have HN := Lib.hid hn
  have HR := Lib.hid hr
  clear hn hr he0 hown0 hok0 hlim
  go_wp2
  go_loopw [3, 9] (fun v iv wr => VtsRel l w n v iv wr) (fun _ iv _ => n - (intOf iv).toNat)
  case atStart => exact ⟨0, rfl, by omega, ⟨by simp, .inl ⟨rfl, rfl⟩⟩, Below.refl _ _⟩
  case round =>
    obtain ⟨i, rfl, hin, hown, hbw⟩ := hrel
    by_cases hi : i < n
    · have di : decide ((i : Int) < (n : Int)) = true := by simp; omega
      have ik : (i : Int) < (n : Int) := by omega
      have hil : i ≤ 1000000 := by omega
      obtain ⟨T, hT⟩ : ∃ T, T = ((l.take i).map (·.vote)).flatMap vtc := ⟨_, rfl⟩
      rw [← hT] at hown
      have HT := Lib.hid hT
      have HOwn := Lib.hid hown
      clear hown hT
      obtain ⟨s, hs⟩ : ∃ s, l[i]? = some s := ⟨_, List.getElem?_eq_getElem (by rw [HN.out]; exact hi)⟩
      obtain ⟨b, o, rfl, hb, hcell⟩ := HR.out.cells (by intro e; have := flat_length sgc 23 l (sgc_len l); rw [e, HN.out] at this; simp at this; omega)
      clear hcell
      have x1 : rowAt wr b (o + i * 23) 23 = some s.cells := (HR.out.below hbw).sgRow hs
      have HS := Lib.hid hs
      clear hs
      go_upto_region 5 with (refine wpList_store_blk rfl 34 (.tmp 5) (.tmp 12) rfl wr.heap.size s.cells rfl rfl 34 zeroSc (Blk.new wr _ _) (by rw [s.size_cells]; rfl) (by rw [s.size_cells]; kernel_rfl) (fun u hu => s.one u hu) ?_; intro w4 hB4 hg4 hsz4)
      have HOwn4 : Hid (w4.ownsRow w.heap.size 31 22 u3 i T) := own_kept (HOwn.out.alloc _) hg4 (fun k hk => by
        injection hk with hk
        subst hk
        right
        intro e
        have := (HOwn.out.lt _ e).2
        omega)
      have hbw4 : Below w.heap.size w w4 := (hbw.alloc hbw.size _).grown hg4 (Nat.le_trans hbw.size (by simp)) (fun k hk => by injection hk with hk; subst hk; exact hbw.size)
      have hw4 : w4.heap.size = wr.heap.size + 1 := by rw [hsz4]; simp
      have HBx := Lib.hid hB4
      obtain ⟨q, hq⟩ : ∃ q, q = wr.heap.size := ⟨_, rfl⟩
      rw [← hq] at HBx hw4 ⊢
      have x4 : rowAt w4 q 0 22 = some s.vote.cells := s.row_vote HBx.out
      have hw5 : q < w4.heap.size := by omega
      clear hB4 hg4 hsz4 x1 hq HOwn hbw hw4
      go_frame
      go_wp2_with ((first
        | (refine wpList_build1 rfl 65 31 (.tmp 15) rfl s.vote.cells rfl Tryz.underlying65 (by kernel_rfl) (by decide) (by decide) ?_)
        | (at_builtin; refine wpList_app rfl (.tmp 13) (.tmp 16) _ rfl w.heap.size 31 (.agg zeroV.cells) 22 64 Tryz.underlying65 info_vote rfl (by decide) u3 i T rfl ?r0 (w4.heap.size + 1) (some ⟨w4.heap.size, 0, none⟩) 1 1 (vtc s.vote) rfl ?r1 ?r2 ?r3 ?r4 ?r5 ?r6 ?_)))
      case r0 => exact HOwn4.out.alloc _
      case r1 => rfl
      case r2 => exact Rd.mk (by omega) (fun j u hu => by rw [Nat.zero_add, (Blk.new w4 _ _).cell]; simpa using hu)
      case r3 => exact fun u hu => one_vt s.vote hu
      case r4 => omega
      case r5 => unfold maxLen; omega
      case r6 => have := hbw4.size; simp; omega
      intro v3 w3 hown3 hg3 hat3
      have hbw3 : Below w.heap.size w w3 := below_own (hbw4.alloc hbw4.size _) (HOwn4.out.alloc _) hg3
      have HOwn3 := Lib.hid hown3
      clear hown3 hg3 hat3
      go_wp2
      go_roundw
      case rel =>
        refine ⟨i + 1, by go_num, by omega, ?_, hbw3⟩
        have h := HOwn3.out
        rw [HT.out] at h
        rw [List.take_add_one, HS.out, List.map_append, List.flatMap_append]
        simpa using h
      case measure => simp [intOf]; omega
    · obtain rfl : n = i := by omega
      have HT : Hid (l.take n = l) := by unfold Hid; rw [← HN.out, List.take_length]
      rw [HT.out] at hown
      have HOwn2 := Lib.hid hown
      clear hown
      go_wp2
      go_ret
      refine ⟨_, rfl, hb0.trans (hbw.mono hb0.size), ?_⟩
      have h := own_base HOwn2.out hb0.size
      have e : l.map (·.vote) = D.map (·.1) := by rw [← HE.out, List.map_map]; rfl
      rw [← e, List.length_map, HN.out]
      exact h

end Go.Proofs.YthmecidpjlaonaaGreat
