/-
  The reference's LessSigned, the program's Votes, and the reference's Votes up to its Sorted. Condition: the list lies in memory below the call.
  Memory and plain mathematics for the reference's Sorted: lists of votes, strictly sorted, and where its loops stand. No condition.
  The reference's Sorted returns the strictly ascending list of the same votes. Condition: the list lies in memory below the call and has at most a million elements.
  The reference's Votes returns the same list as the program's. Condition: the list lies in memory below the call and has at most a million elements.
-/
import Derived.Test.YthmecidpjlaonaaGOrd
import Derived.Test.YthmecidpjlaonaaGPCan
import Derived.Test.YthmecidpjlaonaaGSgs
import Derived.Deep.DeepCutAuto
namespace Go.Proofs.Ythmecidpjlaonaa
open Go.RowKit
attribute [local go_sem ↓] Go.wp_at_zero Go.wp_at_succ loadNm loadVt loadSg loadEv
attribute [local go_sem] runNm runVt runSg runEv pickRow_some rowAt_drew rowAt_drewN

theorem info_vote : (Try.prog.info? 41).map (fun i => (i.zero, i.size, i.bytes)) = some (some (.agg zeroV.cells), 22, 64) := by kernel_rfl

set_option maxRecDepth 100000 in
set_option maxHeartbeats 2000000 in
theorem rsless_any (a b : Sg) (w : World) (ha : SgOk w w.heap.size a) (hb : SgOk w w.heap.size b) : Calls Try.prog 41 #[a.val, b.val] w (BoolPost w (lessS a.vs b.vs)) := by
  have HL : Hid (∀ W, Calls Try.prog 64 #[a.vote.val, b.vote.val] W (BoolPost W (lessV a.vote b.vote))) := fun W => rvless_any a.vote b.vote W
  have c1 : ∀ W, Below w.heap.size w W → (convert 23 9 (.slice a.A a.sig.length a.cap)).run Try.prog W = .ok (.string ⟨a.sig.toArray⟩) W := fun W hW => conv_str W _ _ _ _ (ha.2.1.below hW)
  have c2 : ∀ W, Below w.heap.size w W → (convert 23 9 (.slice b.A b.sig.length b.cap)).run Try.prog W = .ok (.string ⟨b.sig.toArray⟩) W := fun W hW => conv_str W _ _ _ _ (hb.2.1.below hW)
  obtain ⟨k, hk⟩ : ∃ k, k = decide (a.vote = b.vote) := ⟨_, rfl⟩
  have e1 : ∀ W, (Op.equalIn 10000 41 (.agg a.vote.cells) (.agg b.vote.cells)).run Try.prog W = .ok k W := fun W => by rw [hk]; exact eqVt a.vote b.vote W
  obtain ⟨r, hr⟩ : ∃ r, r = lessS a.vs b.vs := ⟨_, rfl⟩
  rw [← hr]
  have HR := Lib.hid hr
  have HK := Lib.hid hk
  have hB1 : Blk ((w.alloc (.cells a.cells 43)).alloc (.cells b.cells 43)) w.heap.size 43 a.cells := (Blk.new w _ _).alloc _
  have hB2 : Blk ((w.alloc (.cells a.cells 43)).alloc (.cells b.cells 43)) (w.alloc (.cells a.cells 43)).heap.size 43 b.cells := Blk.new _ _ _
  have x1 := a.row_vote hB1
  have x2 := b.row_vote hB2
  have y1 : ((w.alloc (.cells a.cells 43)).alloc (.cells b.cells 43)).cell? ⟨w.heap.size, 22, none⟩ = some (.slice a.A a.sig.length a.cap) := (hB1.cell 22).trans a.cell_sig
  have y2 : ((w.alloc (.cells a.cells 43)).alloc (.cells b.cells 43)).cell? ⟨(w.alloc (.cells a.cells 43)).heap.size, 22, none⟩ = some (.slice b.A b.sig.length b.cap) := (hB2.cell 22).trans b.cell_sig
  have hbel : Below w.heap.size w ((w.alloc (.cells a.cells 43)).alloc (.cells b.cells 43)) := ((Below.refl _ _).alloc (Nat.le_refl _) _).alloc (by simp) _
  have d1 := c1 _ hbel
  have d2 := c2 _ hbel
  clear hr hk ha hb hB1 hB2 c1 c2
  simp at x2 y2
  go_enter Try.func41, Try.ntmps41
  cases k with
  | true =>
    go_wp2
    go_ret
    refine ⟨?_, hbel⟩
    have hv : a.vote = b.vote := of_decide_eq_true HK.out.symm
    rw [HR.out]
    unfold lessS
    rw [if_pos hv]
    try rw [ByteArray.toList_eq, ByteArray.toList_eq]
    rfl
  | false =>
    go_wp2_with fail
    refine (HL.out _).mono ?_
    rintro en w2 ⟨rfl, hb2⟩
    go_wp2
    go_ret
    refine ⟨?_, hbel.trans (hb2.mono hbel.size)⟩
    have hv : ¬ a.vote = b.vote := of_decide_eq_false HK.out.symm
    rw [HR.out]
    unfold lessS
    rw [if_neg hv]
    rfl
/-- A list of votes in memory of its own. -/
def VtPost (w : World) (L : List Vt) (e : Ending) (w' : World) : Prop :=
  ∃ v : Value, e = .returned v ∧ Below w.heap.size w w' ∧ w'.ownsRow w.heap.size 41 22 v L.length (L.flatMap vtc)
/-- Where the loops of Votes stand. -/
def VtsRel (l : List Sg) (w : World) (n : Nat) (v iv : Value) (wr : World) : Prop :=
  ∃ (i : Nat), iv = .int .i64 (i : Int) ∧ i ≤ n ∧ wr.ownsRow w.heap.size 41 22 v i (((l.take i).map (·.vote)).flatMap vtc) ∧ Below w.heap.size w wr

set_option maxRecDepth 100000 in
set_option maxHeartbeats 4000000 in
theorem pvotes_any (A0 : Option Addr) (n0 c0 : Nat) (l0 : List Sg) (w0 : World) (hn : l0.length = n0) (hr : Rd w0 w0.heap.size A0 (l0.flatMap sgc)) (hok : SgsOk w0 w0.heap.size l0) (hsmall0 : n0 ≤ 1000000) :
    Calls Try.prog 42 #[.slice A0 n0 c0] w0 (VtPost w0 ((canF (l0.map Sg.vs)).map (·.1))) := by
  have HCan : Hid (Calls Try.prog 35 #[.slice A0 n0 c0] w0 (CanPost w0 (l0.map Sg.vs))) := pcan_any A0 n0 c0 l0 w0 hn hr hok hsmall0
  have hlim : (canF (l0.map Sg.vs)).length ≤ 1000000 := by have := canF_len (l0.map Sg.vs); rw [List.length_map] at this; omega
  obtain ⟨D, hD⟩ : ∃ D, D = canF (l0.map Sg.vs) := ⟨_, rfl⟩
  rw [← hD] at hlim ⊢
  have HD := Lib.hid hD
  clear hn hr hok hD
  go_enter Try.func42, Try.ntmps42
  go_wp2_with fail
  refine HCan.out.mono ?_
  rintro en w ⟨l, v, rfl, hb0, hown0, hok0, he0⟩
  rw [← HD.out] at he0
  obtain ⟨A, c, rfl, hr, hc, hm, _⟩ := own_slice hown0 rfl hok0
  have HE := Lib.hid he0
  have hsmall : l.length ≤ 1000000 := by have := congrArg List.length he0; rw [List.length_map] at this; omega
  obtain ⟨n, hn⟩ : ∃ n, l.length = n := ⟨_, rfl⟩
  rw [hn] at hsmall hc ⊢
  have HN := Lib.hid hn
  have HR := Lib.hid hr
  clear hn hr he0 hown0 hok0 hlim
  go_wp2
  go_loopw [3, 9] (fun v iv wr => VtsRel l w n v iv wr) (fun _ iv _ => n - (intOf iv).toNat)
  case atStart => exact ⟨0, rfl, by omega, ⟨by simp, .inl ⟨rfl, rfl⟩⟩, Below.refl _ _⟩
  case round =>
    obtain ⟨i, rfl, hin, hown, hbw⟩ := hrel
    by_cases hi : i < n
    · have di : decide ((i : Int) < (n : Int)) = true := by simp; omega
      have ik : (i : Int) < (n : Int) := by omega
      have hil : i ≤ 1000000 := by omega
      obtain ⟨T, hT⟩ : ∃ T, T = ((l.take i).map (·.vote)).flatMap vtc := ⟨_, rfl⟩
      rw [← hT] at hown
      have HT := Lib.hid hT
      have HOwn := Lib.hid hown
      clear hown hT
      obtain ⟨s, hs⟩ : ∃ s, l[i]? = some s := ⟨_, List.getElem?_eq_getElem (by rw [HN.out]; exact hi)⟩
      obtain ⟨b, o, rfl, hb, hcell⟩ := HR.out.cells (by intro e; have := flat_length sgc 23 l (sgc_len l); rw [e, HN.out] at this; simp at this; omega)
      clear hcell
      have x1 : rowAt wr b (o + i * 23) 23 = some s.cells := (HR.out.below hbw).sgRow hs
      have HS := Lib.hid hs
      clear hs
      go_upto_region 5 with (refine wpList_store_blk rfl 43 (.tmp 5) (.tmp 12) rfl wr.heap.size s.cells rfl rfl 43 zeroSc (Blk.new wr _ _) (by rw [s.size_cells]; rfl) (by rw [s.size_cells]; kernel_rfl) (fun u hu => s.one u hu) ?_; intro w4 hB4 hg4 hsz4)
      have HOwn4 : Hid (w4.ownsRow w.heap.size 41 22 u3 i T) := own_kept (HOwn.out.alloc _) hg4 (fun k hk => by
        injection hk with hk
        subst hk
        right
        intro e
        have := (HOwn.out.lt _ e).2
        omega)
      have hbw4 : Below w.heap.size w w4 := (hbw.alloc hbw.size _).grown hg4 (Nat.le_trans hbw.size (by simp)) (fun k hk => by injection hk with hk; subst hk; exact hbw.size)
      have hw4 : w4.heap.size = wr.heap.size + 1 := by rw [hsz4]; simp
      have HBx := Lib.hid hB4
      obtain ⟨q, hq⟩ : ∃ q, q = wr.heap.size := ⟨_, rfl⟩
      rw [← hq] at HBx hw4 ⊢
      have x4 : rowAt w4 q 0 22 = some s.vote.cells := s.row_vote HBx.out
      have hw5 : q < w4.heap.size := by omega
      clear hB4 hg4 hsz4 x1 hq HOwn hbw hw4
      go_frame
      go_wp2_with ((first
        | (refine wpList_build1 rfl 51 41 (.tmp 15) rfl s.vote.cells rfl Try.underlying51 (by kernel_rfl) (by decide) (by decide) ?_)
        | (at_builtin; refine wpList_app rfl (.tmp 13) (.tmp 16) _ rfl w.heap.size 41 (.agg zeroV.cells) 22 64 Try.underlying51 info_vote rfl (by decide) u3 i T rfl ?r0 (w4.heap.size + 1) (some ⟨w4.heap.size, 0, none⟩) 1 1 (vtc s.vote) rfl ?r1 ?r2 ?r3 ?r4 ?r5 ?r6 ?_)))
      case r0 => exact HOwn4.out.alloc _
      case r1 => rfl
      case r2 => exact Rd.mk (by omega) (fun j u hu => by rw [Nat.zero_add, (Blk.new w4 _ _).cell]; simpa using hu)
      case r3 => exact fun u hu => one_vt s.vote hu
      case r4 => omega
      case r5 => unfold maxLen; omega
      case r6 => have := hbw4.size; simp; omega
      intro v3 w3 hown3 hg3 hat3
      have hbw3 : Below w.heap.size w w3 := below_own (hbw4.alloc hbw4.size _) (HOwn4.out.alloc _) hg3
      have HOwn3 := Lib.hid hown3
      clear hown3 hg3 hat3
      go_wp2
      go_roundw
      case rel =>
        refine ⟨i + 1, by go_num, by omega, ?_, hbw3⟩
        have h := HOwn3.out
        rw [HT.out] at h
        rw [List.take_add_one, HS.out, List.map_append, List.flatMap_append]
        simpa using h
      case measure => simp [intOf]; omega
    · obtain rfl : n = i := by omega
      have HT : Hid (l.take n = l) := by unfold Hid; rw [← HN.out, List.take_length]
      rw [HT.out] at hown
      have HOwn2 := Lib.hid hown
      clear hown
      go_wp2
      go_ret
      refine ⟨_, rfl, hb0.trans (hbw.mono hb0.size), ?_⟩
      have h := own_base HOwn2.out hb0.size
      have e : l.map (·.vote) = D.map (·.1) := by rw [← HE.out, List.map_map]; rfl
      rw [← e, List.length_map, HN.out]
      exact h

set_option maxRecDepth 100000 in
set_option maxHeartbeats 4000000 in
theorem rvotes_core (A : Option Addr) (n c : Nat) (l : List Sg) (w : World) (hn : l.length = n) (hr : Rd w w.heap.size A (l.flatMap sgc)) (hsmall : n ≤ 1000000) (D : List Vt)
    (hsort : ∀ v W, Below w.heap.size w W → W.ownsRow w.heap.size 41 22 v (l.map (·.vote)).length ((l.map (·.vote)).flatMap vtc) → Calls Try.prog 80 #[v] W (VtPost W D)) :
    Calls Try.prog 43 #[.slice A n c] w (VtPost w D) := by
  have HN := Lib.hid hn; clear hn
  have HR := Lib.hid hr; clear hr
  have HSort := Lib.hid hsort; clear hsort
  go_enter Try.func43, Try.ntmps43
  go_wp2
  go_loopw [3, 4] (fun v iv wr => VtsRel l w n v iv wr) (fun _ iv _ => n - (intOf iv).toNat)
  case atStart => exact ⟨0, rfl, by omega, ⟨by simp, .inl ⟨rfl, rfl⟩⟩, Below.refl _ _⟩
  case round =>
    obtain ⟨i, rfl, hin, hown, hbw4⟩ := hrel
    by_cases hi : i < n
    · have di : decide ((i : Int) < (n : Int)) = true := by simp; omega
      have ik : (i : Int) < (n : Int) := by omega
      have hil : i ≤ 1000000 := by omega
      obtain ⟨T, hT⟩ : ∃ T, T = ((l.take i).map (·.vote)).flatMap vtc := ⟨_, rfl⟩
      rw [← hT] at hown
      have HT := Lib.hid hT
      have HOwn := Lib.hid hown
      clear hown hT
      obtain ⟨s, hs⟩ : ∃ s, l[i]? = some s := ⟨_, List.getElem?_eq_getElem (by rw [HN.out]; exact hi)⟩
      obtain ⟨b, o, rfl, hb, hcell⟩ := HR.out.cells (by intro e; have := flat_length sgc 23 l (sgc_len l); rw [e, HN.out] at this; simp at this; omega)
      clear hcell
      obtain ⟨w4, hw4⟩ : ∃ w4, w4 = wr := ⟨_, rfl⟩
      subst hw4
      have x1 : rowAt w4 b (o + i * 23) 22 = some s.vote.cells := (HR.out.below hbw4).sgVote hs
      have HS := Lib.hid hs
      have HOwn4 := HOwn
      clear hs HOwn
      go_wp2_with ((first
        | (refine wpList_build1 rfl 51 41 (.tmp 16) rfl s.vote.cells rfl Try.underlying51 (by kernel_rfl) (by decide) (by decide) ?_)
        | (at_builtin; refine wpList_app rfl (.tmp 11) (.tmp 17) _ rfl w.heap.size 41 (.agg zeroV.cells) 22 64 Try.underlying51 info_vote rfl (by decide) u3 i T rfl ?r0 (w4.heap.size + 1) (some ⟨w4.heap.size, 0, none⟩) 1 1 (vtc s.vote) rfl ?r1 ?r2 ?r3 ?r4 ?r5 ?r6 ?_)))
      case r0 => exact HOwn4.out.alloc _
      case r1 => rfl
      case r2 => exact Rd.mk (by omega) (fun j u hu => by rw [Nat.zero_add, (Blk.new w4 _ _).cell]; simpa using hu)
      case r3 => exact fun u hu => one_vt s.vote hu
      case r4 => omega
      case r5 => unfold maxLen; omega
      case r6 => have := hbw4.size; simp; omega
      intro v3 w3 hown3 hg3 hat3
      have hbw3 : Below w.heap.size w w3 := below_own (hbw4.alloc hbw4.size _) (HOwn4.out.alloc _) hg3
      have HOwn3 := Lib.hid hown3
      clear hown3 hg3 hat3
      go_wp2
      go_roundw
      case rel =>
        refine ⟨i + 1, by go_num, by omega, ?_, hbw3⟩
        have h := HOwn3.out
        rw [HT.out] at h
        rw [List.take_add_one, HS.out, List.map_append, List.flatMap_append]
        simpa using h
      case measure => simp [intOf]; omega
    · obtain rfl : n = i := by omega
      have HT : Hid (l.take n = l) := by unfold Hid; rw [← HN.out, List.take_length]
      rw [HT.out] at hown
      have HOwn2 := Lib.hid hown
      clear hown
      go_wp2_with fail
      refine (HSort.out _ _ hbw4 (by rw [List.length_map, HN.out]; exact HOwn2.out)).mono ?_
      rintro en w2 ⟨v, rfl, hb2, hown2⟩
      have HO2 := Lib.hid hown2
      clear hown2
      go_wp2
      go_ret
      exact ⟨v, rfl, hbw4.trans (hb2.mono hbw4.size), own_base HO2.out hbw4.size⟩
end Go.Proofs.Ythmecidpjlaonaa
namespace Go.Proofs.Ythmecidpjlaonaa
open Go.RowKit

abbrev pv (v : Vt) : VS := (v, [])
def StrictT (l : List Vt) : Prop := l.Pairwise fun x y => lessV x y = true
theorem strictT_iff (l : List Vt) : StrictT l ↔ StrictV (l.map pv) := by unfold StrictT StrictV; rw [List.pairwise_map]
/-- Where the merge stands, as lists. -/
def MInv (all O L M : List Vt) : Prop := StrictT (O ++ L) ∧ StrictT (O ++ M) ∧ ∀ x, x ∈ all ↔ x ∈ O ∨ x ∈ L ∨ x ∈ M
theorem MInv.swap {all O L M : List Vt} (h : MInv all O L M) : MInv all O M L := ⟨h.2.1, h.1, fun x => (h.2.2 x).trans (by rw [or_comm (a := x ∈ M)])⟩
theorem strictT_snoc {O : List Vt} {x y : Vt} {L M : List Vt} (h : StrictT (O ++ x :: L)) (h' : StrictT (O ++ y :: M)) (hl : lessV x y = true) : StrictT ((O ++ [x]) ++ y :: M) := by
  unfold StrictT at h h' ⊢
  rw [List.pairwise_append] at h h'
  rw [List.pairwise_append]
  refine ⟨?_, h'.2.1, ?_⟩
  · rw [List.pairwise_append]
    exact ⟨h.1, by simp, fun a ha b hb => h.2.2 a ha b (by rw [List.mem_singleton.1 hb]; simp)⟩
  · intro a ha b hb
    rcases List.mem_append.1 ha with ha | ha
    · exact h'.2.2 a ha b hb
    · rw [List.mem_singleton.1 ha]
      rcases List.mem_cons.1 hb with rfl | hb
      · exact hl
      · exact lessV_trans hl ((List.pairwise_cons.1 h'.2.1).1 b hb)
theorem mem_move {all O L M : List Vt} {x : Vt} (h : ∀ z, z ∈ all ↔ z ∈ O ∨ z ∈ x :: L ∨ z ∈ M) (z : Vt) : z ∈ all ↔ z ∈ O ++ [x] ∨ z ∈ L ∨ z ∈ M := by
  rw [h z, List.mem_append, List.mem_singleton, List.mem_cons]
  constructor
  · rintro (h | (h | h) | h)
    · exact .inl (.inl h)
    · exact .inl (.inr h)
    · exact .inr (.inl h)
    · exact .inr (.inr h)
  · rintro ((h | h) | h | h)
    · exact .inl h
    · exact .inr (.inl (.inl h))
    · exact .inr (.inl (.inr h))
    · exact .inr (.inr h)
theorem MInv.takeA {all O L M : List Vt} {x y : Vt} (h : MInv all O (x :: L) (y :: M)) (hl : lessV x y = true) : MInv all (O ++ [x]) L (y :: M) :=
  ⟨by rw [List.append_assoc]; exact h.1, strictT_snoc h.1 h.2.1 hl, mem_move h.2.2⟩
theorem MInv.takeA0 {all O L : List Vt} {x : Vt} (h : MInv all O (x :: L) []) : MInv all (O ++ [x]) L [] :=
  ⟨by rw [List.append_assoc]; exact h.1, by
    have h1 := h.1
    unfold StrictT at h1 ⊢
    rw [show O ++ x :: L = (O ++ [x]) ++ L by simp, List.pairwise_append] at h1
    rw [List.append_nil]; exact h1.1, mem_move h.2.2⟩
theorem MInv.drop {all O L M : List Vt} {x : Vt} (h : MInv all O (x :: L) (x :: M)) : MInv all O L (x :: M) := by
  refine ⟨?_, h.2.1, fun z => (h.2.2 z).trans ?_⟩
  · refine List.Pairwise.sublist ?_ h.1
    exact List.Sublist.append (List.Sublist.refl _) (List.sublist_cons_self _ _)
  · constructor
    · rintro (h | h | h)
      · exact .inl h
      · rcases List.mem_cons.1 h with rfl | h
        · exact .inr (.inr List.mem_cons_self)
        · exact .inr (.inl h)
      · exact .inr (.inr h)
    · rintro (h | h | h)
      · exact .inl h
      · exact .inr (.inl (List.mem_cons_of_mem _ h))
      · exact .inr (.inr h)
/-- A slice of votes that is read. -/
def VlOk (w : World) (L : List Vt) (v : Value) : Prop :=
  ∃ A c, v = .slice A L.length c ∧ Rd w w.heap.size A (L.flatMap vtc) ∧ L.length ≤ c ∧ c ≤ maxLen
theorem VlOk.below {w w' : World} {L : List Vt} {v : Value} (h : VlOk w L v) (hb : Below w.heap.size w w') : VlOk w' L v := by
  obtain ⟨A, c, h1, h2, h3, h4⟩ := h
  exact ⟨A, c, h1, (h2.below hb).more hb.size, h3, h4⟩
theorem own_vslice {w : World} {b n : Nat} {v : Value} {L : List Vt} (h : w.ownsRow b 41 22 v n (L.flatMap vtc)) (hn : n = L.length) : VlOk w L v := by
  subst hn
  rcases h.2 with ⟨hv, h0⟩ | ⟨g, cap, cur, hv, _, _, h1, h2, _⟩
  · subst hv
    have hL : L = [] := List.eq_nil_of_length_eq_zero h0
    subst hL
    exact ⟨none, 0, rfl, Rd.nil, Nat.le_refl _, by unfold maxLen; omega⟩
  · subst hv
    exact ⟨_, cap, rfl, Rd.of_own h, h1, h2⟩
theorem Rd.vtDrop {w : World} {B' b o : Nat} {l : List Vt} (h : Rd w B' (some ⟨b, o, none⟩) (l.flatMap vtc)) (k : Nat) : Rd w B' (some ⟨b, o + k * 22, none⟩) ((l.drop k).flatMap vtc) := by
  rw [flat_drop vtc 22 l (vtc_len l)]
  exact h.dropRow _
theorem Rd.vtTake {w : World} {B' : Nat} {A : Option Addr} {l : List Vt} (h : Rd w B' A (l.flatMap vtc)) (k : Nat) : Rd w B' A ((l.take k).flatMap vtc) := by
  have e : l.flatMap vtc = (l.take k).flatMap vtc ++ (l.drop k).flatMap vtc := by rw [← List.flatMap_append, List.take_append_drop]
  have h2 := h.take ((l.take k).flatMap vtc).length
  rwa [e, List.take_left] at h2
theorem Rd.vtFirst {w : World} {B' : Nat} {A : Option Addr} {x : Vt} {l : List Vt} (h : Rd w B' A ((x :: l).flatMap vtc)) : ∃ b o, A = some ⟨b, o, none⟩ := by
  obtain ⟨b, o, h, _, _⟩ := h.cells (by intro e; have := flat_length vtc 22 (x :: l) (vtc_len _); rw [e] at this; simp at this)
  exact ⟨b, o, h⟩
theorem Rd.vt0 {w : World} {B' b o : Nat} {x : Vt} {l : List Vt} (h : Rd w B' (some ⟨b, o, none⟩) ((x :: l).flatMap vtc)) : rowAt w b o 22 = some x.cells := by
  have h1 := h.voteRow (k := 0) rfl
  simpa only [Nat.zero_mul, Nat.add_zero] using h1
theorem VlOk.tail {W : World} {x : Vt} {L : List Vt} {b o c : Nat} (h : Rd W W.heap.size (some ⟨b, o, none⟩) ((x :: L).flatMap vtc)) (hc : L.length + 1 ≤ c) (hm : c ≤ maxLen) : VlOk W L (.slice (if c = 1 then some ⟨b, o, none⟩ else some ⟨b, o + 22, none⟩) L.length (c - 1)) := by
  refine ⟨_, _, rfl, ?_, by omega, by omega⟩
  split
  · have hL : L = [] := List.eq_nil_of_length_eq_zero (by omega)
    subst hL
    exact .inl rfl
  · have := h.vtDrop 1
    simpa using this
/-- The two sorted halves. -/
def TwoT (w : World) (la lb : List Vt) (s t : Value) (wx : World) : Prop :=
  ∃ L M : List Vt, VlOk wx L s ∧ VlOk wx M t ∧ StrictT L ∧ StrictT M ∧ (∀ x, x ∈ L ↔ x ∈ la) ∧ (∀ x, x ∈ M ↔ x ∈ lb) ∧ L.length ≤ la.length ∧ M.length ≤ lb.length ∧ Below w.heap.size w wx
/-- Where the merge stands; W is the world in which it began. -/
def VMrg (all : List Vt) (n : Nat) (W : World) (s t v : Value) (wr : World) : Prop :=
  ∃ L M O : List Vt, VlOk W L s ∧ VlOk W M t ∧ wr.ownsRow W.heap.size 41 22 v O.length (O.flatMap vtc) ∧ Below W.heap.size W wr ∧ MInv all O L M ∧ O.length + L.length + M.length ≤ n
/-- What Sorted returns. -/
def SrtPost (w : World) (l : List Vt) (e : Ending) (w' : World) : Prop :=
  ∃ D : List Vt, VtPost w D e w' ∧ StrictT D ∧ (∀ x, x ∈ D ↔ x ∈ l) ∧ D.length ≤ l.length
/-- A bool of the merge's switch; the list so far is where it was. -/
def VCut (r : Bool) (W : World) (v : Value) (O : List Vt) (s : Value) (wx : World) : Prop := s = .bool r ∧ wx.ownsRow W.heap.size 41 22 v O.length (O.flatMap vtc) ∧ Below W.heap.size W wx
def vheadA : List Vt → List Vt → Bool
  | _, [] => true
  | [], _ :: _ => false
  | x :: _, y :: _ => lessV x y
def vheadB : List Vt → List Vt → Bool
  | [], _ => true
  | _ :: _, [] => false
  | x :: _, y :: _ => lessV y x
end Go.Proofs.Ythmecidpjlaonaa
namespace Go.Proofs.Ythmecidpjlaonaa
open Go.RowKit
attribute [local go_sem ↓] Go.wp_at_zero Go.wp_at_succ loadNm loadVt loadSg loadEv
attribute [local go_sem] runNm runVt runSg runEv pickRow_some rowAt_drew rowAt_drewN

set_option maxRecDepth 100000 in
set_option maxHeartbeats 4000000 in
theorem rsorted_step (A : Option Addr) (n c : Nat) (l : List Vt) (w : World) (hn : l.length = n) (hr : Rd w w.heap.size A (l.flatMap vtc)) (hsmall : n ≤ 1000000) (hc : n ≤ c) (hm : c ≤ maxLen)
    (hrec : ∀ (A' : Option Addr) (n' c' : Nat) (l' : List Vt) (w' : World), n' < n → l'.length = n' → Rd w' w'.heap.size A' (l'.flatMap vtc) → n' ≤ c' → c' ≤ maxLen → Calls Try.prog 80 #[.slice A' n' c'] w' (SrtPost w' l')) :
    Calls Try.prog 80 #[.slice A n c] w (SrtPost w l) := by
  have HN := Lib.hid hn; clear hn
  have HR := Lib.hid hr; clear hr
  have HRec := Lib.hid hrec; clear hrec
  unfold maxLen at hm
  go_enter Try.func80, Try.ntmps80
  go_wp2
  go_loopw [3, 4] (fun rv iv wr => RdyRel (l.map pv) w n rv iv wr) (fun _ iv _ => n - (intOf iv).toNat)
  case atStart => exact ⟨0, true, rfl, rfl, by omega, fun _ _ _ _ h => absurd h (Nat.not_lt_zero _), fun h => (by cases h), Below.refl _ _⟩
  case round =>
    obtain ⟨i, rb, rfl, rfl, hin, h1, h2, hbw⟩ := hrel
    have H1 := Lib.hid h1
    have H2 := Lib.hid h2
    clear h1 h2
    obtain ⟨r, hrr⟩ : ∃ r, r = (rb && decide (i + 1 < n)) := ⟨_, rfl⟩
    have HRR := Lib.hid hrr
    clear hrr
    go_upto_region 3 with fail
    go_cut [15] (fun s wx => BoolCut r w s wx)
    case first =>
      by_cases hi : i + 1 < n
      · have di : decide ((i : Int) + 1 < (n : Int)) = true := by simp; omega
        cases rb <;> (go_wp2; go_meet; exact ⟨by rw [HRR.out]; simp [hi], hbw⟩)
      · have di : decide ((i : Int) + 1 < (n : Int)) = false := by simp; omega
        cases rb <;> (go_wp2; go_meet; exact ⟨by rw [HRR.out]; simp [hi], hbw⟩)
    case rest =>
      clear hbw
      obtain ⟨rfl, hbw⟩ := hcut
      cases r with
      | true =>
        have hboth : rb = true ∧ i + 1 < n := by
          have := HRR.out
          simpa using this.symm
        obtain ⟨rfl, hi⟩ := hboth
        have ii : i < n := by omega
        have ij : (0 : Int) ≤ (i : Int) + 1 := by omega
        have ik : (i : Int) + 1 < (n : Int) := by omega
        have hw : IntKind.i64.wrap ((i : Int) + 1) = ((i + 1 : Nat) : Int) := IntWalk.i64_in _ (by omega)
        obtain ⟨x, hx⟩ : ∃ x, l[i]? = some x := ⟨_, List.getElem?_eq_getElem (by rw [HN.out]; omega)⟩
        obtain ⟨y, hy⟩ : ∃ y, l[i + 1]? = some y := ⟨_, List.getElem?_eq_getElem (by rw [HN.out]; omega)⟩
        obtain ⟨b, o, rfl, hb, hcell⟩ := HR.out.cells (by intro e; have := flat_length vtc 22 l (vtc_len l); rw [e, HN.out] at this; simp at this; omega)
        clear hcell
        have HRows : Hid (∀ W, Below w.heap.size w W → rowAt W b (o + i * 22) 22 = some x.cells ∧ rowAt W b (o + (i + 1) * 22) 22 = some y.cells) := fun W hW => ⟨(HR.out.below hW).voteRow hx, (HR.out.below hW).voteRow hy⟩
        have HLe : Hid (∀ W, Calls Try.prog 64 #[x.val, y.val] W (BoolPost W (lessV x y))) := fun W => rvless_any x y W
        have HX := Lib.hid hx
        have HY := Lib.hid hy
        clear hx hy HRR
        go_upto_region 5 with fail
        refine wp_region_noPanic ?_
        refine wp_region_held_drew (S := fun w' => rowAt w' b (o + i * 22) 22 = some x.cells ∧ rowAt w' b (o + (i + 1) * 22) 22 = some y.cells) (by kernel_rfl) (HRows.out _ hbw.drew) (fun hHeld => ?_)
        refine wpAnyH_takeD (some 18) (i := 0) (v := ?vh1_0) rfl rfl (by kernel_rfl) (by kernel_rfl) (by kernel_rfl) (fun _ _ _ h => h) (by rfl) ?hh1_0 (by assumption) ?_
        case hh1_0 => (intro wq hSw; (try dsimp only at hSw); go_simp; (try (with_reducible rfl)))
        go_frame
        refine wpAnyH_takeD (some 19) (i := 1) (v := ?vh1_1) rfl rfl (by kernel_rfl) (by kernel_rfl) (by kernel_rfl) (fun _ _ _ h => h) (by rfl) ?hh1_1 (by assumption) ?_
        case hh1_1 => (intro wq hSw; (try dsimp only at hSw); go_simp; (try (with_reducible rfl)))
        go_frame
        refine wpAnyH_takeD (some 20) (i := 2) (v := ?vh1_2) rfl rfl (by kernel_rfl) (by kernel_rfl) (by kernel_rfl) (fun _ _ _ h => h) (by rfl) ?hh1_2 (by assumption) ?_
        case hh1_2 => (intro wq hSw; (try dsimp only at hSw); go_simp; (try (with_reducible rfl)))
        go_frame
        refine wpAnyH_takeD (some 21) (i := 3) (v := ?vh1_3) rfl rfl (by kernel_rfl) (by kernel_rfl) (by kernel_rfl) (fun _ _ _ h => h) (by rfl) ?hh1_3 (by assumption) ?_
        case hh1_3 => (intro wq hSw; (try dsimp only at hSw); go_simp; (try (with_reducible rfl)))
        go_frame
        refine wpAnyH_takeD (some 22) (i := 4) (v := ?vh1_4) rfl rfl (by kernel_rfl) (by kernel_rfl) (by kernel_rfl) (fun _ _ _ h => h) (by rfl) ?hh1_4 (by assumption) ?_
        case hh1_4 => (intro wq hSw; (try dsimp only at hSw); go_simp; (try (with_reducible rfl)))
        go_frame
        refine wpAnyH_takeD (some 23) (i := 5) (v := ?vh1_5) rfl rfl (by kernel_rfl) (by kernel_rfl) (by kernel_rfl) (fun _ _ _ h => h) (by rfl) ?hh1_5 (by assumption) ?_
        case hh1_5 => (intro wq hSw; (try dsimp only at hSw); go_simp; (try (with_reducible rfl)))
        go_frame
        refine wpAnyH_takeD (some 24) (i := 6) (v := ?vh1_6) rfl rfl (by kernel_rfl) (by kernel_rfl) (by kernel_rfl) (fun _ _ _ h => h) (by rfl) ?hh1_6 (by assumption) ?_
        case hh1_6 => (intro wq hSw; (try dsimp only at hSw); go_simp; (try (with_reducible rfl)))
        go_frame
        refine wpAnyH_takeD (some 25) (i := 7) (v := ?vh1_7) rfl rfl (by kernel_rfl) (by kernel_rfl) (by kernel_rfl) (fun _ _ _ h => h) (by rfl) ?hh1_7 (by assumption) ?_
        case hh1_7 => (intro wq hSw; (try dsimp only at hSw); go_simp; (try (with_reducible rfl)))
        go_frame
        refine wpAnyH_takeD (some 26) (i := 8) (v := ?vh1_8) rfl rfl (by kernel_rfl) (by kernel_rfl) (by kernel_rfl) (fun _ _ _ h => h) (by rfl) ?hh1_8 (by assumption) ?_
        case hh1_8 => (intro wq hSw; (try dsimp only at hSw); go_simp; (try (with_reducible rfl)))
        go_frame
        refine wpAnyH_ready (rs := [9]) (by kernel_rfl) (by simp) ?_
        refine AllReadyH.cons rfl (fun K hK => ?_) AllReadyH.nil
        go_simp
        refine (HLe.out _).mono ?_; rintro en w2 ⟨rfl, hb2⟩; have hbw2 := hbw.trans (((Below.refl _ _).drew.trans hb2).mono hbw.size)
        go_wp2_with fail
        refine hK.out _ _ (HRows.out _ hbw2) (fun hHeld => ?_)
        clear hK K
        try go_frame
        refine wpAnyH_takeD (some 3) (i := 10) (v := ?vh1_10) rfl rfl (by kernel_rfl) (by kernel_rfl) (by kernel_rfl) (fun _ _ _ h => h) (by rfl) ?hh1_10 (by assumption) ?_
        case hh1_10 => (intro wq hSw; (try dsimp only at hSw); go_simp; (try (with_reducible rfl)))
        go_frame
        refine wpAnyH_done (by kernel_rfl) ?_ _
        refine NoPanic.normal ?_
        go_wp2_with fail
        go_roundw
        case rel =>
          refine ⟨i + 1, _, rfl, by go_num, by omega, fun hb j p q hj hp hq => ?_, fun hb => ?_, hbw2⟩
          · rcases Nat.lt_or_ge j i with h | h
            · exact H1.out (by first | rfl | trivial) j p q h hp hq
            · obtain rfl : j = i := by omega
              rw [List.getElem?_map, HX.out] at hp
              rw [List.getElem?_map, HY.out] at hq
              cases hp; cases hq
              exact hb
          · rw [Bool.eq_false_iff]
            intro h
            have := (ascL_iff _).1 h i (pv x) (pv y) (by rw [List.getElem?_map, HX.out]; rfl) (by rw [List.getElem?_map, HY.out]; rfl)
            rw [hb] at this
            cases this
        case measure => simp [intOf]; omega
      | false =>
        cases rb with
        | true =>
          have hi : ¬ i + 1 < n := by
            intro h
            have := HRR.out
            simp [h] at this
          have hasc : Hid (ascL (l.map pv) = true) := (ascL_iff _).2 (fun j x y hx hy => H1.out rfl j x y (by have := (List.getElem?_eq_some_iff.1 hy).1; rw [List.length_map, HN.out] at this; omega) hx hy)
          clear HRR H1 H2 HRec
          go_wp2_with ((at_builtin; refine wpList_app rfl (.const (.slice none 0 0)) (.tmp 29) _ rfl w.heap.size 41 (.agg zeroV.cells) 22 64 Try.underlying51 info_vote rfl (by decide) (.slice none 0 0) 0 [] rfl ?r0 w.heap.size A n c (l.flatMap vtc) rfl ?r1 ?r2 ?r3 ?r4 ?r5 ?r6 ?_))
          case r0 => exact ⟨by simp, .inl ⟨rfl, rfl⟩⟩
          case r1 => rw [flat_length vtc 22 l (vtc_len l), HN.out]
          case r2 => exact HR.out.below hbw
          case r3 =>
            intro u hu
            obtain ⟨v, _, hv⟩ := List.mem_flatMap.1 hu
            exact one_vt v hv
          case r4 => omega
          case r5 => unfold maxLen; omega
          case r6 => exact hbw.size
          intro v3 w3 hown3 hg3 hat3
          have hbw3 : Below w.heap.size w w3 := hbw.grown hg3 hbw.size (by rintro k hk; simp [Value.ownBlock] at hk)
          have HOwn3 := Lib.hid hown3
          clear hown3 hg3 hat3
          go_wp2
          go_ret
          refine ⟨l, ⟨_, rfl, hbw3, ?_⟩, (strictT_iff l).2 (strict_of_asc hasc.out), fun _ => Iff.rfl, Nat.le_refl _⟩
          have h := HOwn3.out
          rw [HN.out]
          exact h
        | false =>
          have hasc : Hid (ascL (l.map pv) = false) := H2.out rfl
          clear HRR H1 H2
          have hn2 : 2 ≤ n := by
            rcases Nat.lt_or_ge n 2 with h | h
            · have h1 := ascL_short (l.map pv) (by rw [List.length_map, HN.out]; omega)
              rw [hasc.out] at h1
              cases h1
            · exact h
          obtain ⟨k, hk⟩ : ∃ k, k = n / 2 := ⟨_, rfl⟩
          have hk1 : 1 ≤ k := by omega
          have hkn : k < n := by omega
          have hq : Int.tdiv (n : Int) 2 = (k : Int) := by rw [Int.tdiv_eq_ediv_of_nonneg (by omega)]; omega
          have hqw : IntKind.i64.wrap (k : Int) = (k : Int) := IntWalk.i64_in _ (by omega)
          have hkl : (k : Int) ≤ (c : Int) := by omega
          have hkm : (k : Int) ≤ (n : Int) := by omega
          have hk0 : (0 : Int) ≤ (k : Int) := by omega
          obtain ⟨b, o, rfl, hb, hcell⟩ := HR.out.cells (by intro e; have := flat_length vtc 22 l (vtc_len l); rw [e, HN.out] at this; simp at this; omega)
          clear hcell
          have HA : Hid (∀ W, Below w.heap.size w W → Calls Try.prog 80 #[.slice (some ⟨b, o, none⟩) k c] W (SrtPost W (l.take k))) := by
            intro W hW
            exact HRec.out (some ⟨b, o, none⟩) k c (l.take k) W hkn (by rw [List.length_take, HN.out]; omega) (((HR.out.below hW).more hW.size).vtTake k) (by omega) (by unfold maxLen; omega)
          have HB : Hid (∀ W, Below w.heap.size w W → Calls Try.prog 80 #[.slice (some ⟨b, o + k * 22, none⟩) (n - k) (c - k)] W (SrtPost W (l.drop k))) := by
            intro W hW
            exact HRec.out (some ⟨b, o + k * 22, none⟩) (n - k) (c - k) (l.drop k) W (by omega) (by rw [List.length_drop, HN.out]) (((HR.out.below hW).more hW.size).vtDrop k) (by omega) (by unfold maxLen; omega)
          clear hk
          go_upto_region 8 with fail
          go_cut [5, 6] (fun s t wx => TwoT w (l.take k) (l.drop k) s t wx)
          case first =>
            refine wp_region_noPanic ?_
            refine wp_region_held_drew (S := fun _ => True) (by kernel_rfl) (trivial) (fun hHeld => ?_)
            refine wpAnyH_takeD (some 31) (i := 0) (v := ?vh2_0) rfl rfl (by kernel_rfl) (by kernel_rfl) (by kernel_rfl) (fun _ _ _ h => h) (by rfl) ?hh2_0 (by assumption) ?_
            case hh2_0 => (intro wq hSw; (try dsimp only at hSw); go_simp; (try (with_reducible rfl)))
            go_frame
            refine wpAnyH_takeD (some 32) (i := 1) (v := ?vh2_1) rfl rfl (by kernel_rfl) (by kernel_rfl) (by kernel_rfl) (fun _ _ _ h => h) (by rfl) ?hh2_1 (by assumption) ?_
            case hh2_1 => (intro wq hSw; (try dsimp only at hSw); go_simp; (try (with_reducible rfl)))
            go_frame
            refine wpAnyH_takeD (some 33) (i := 2) (v := ?vh2_2) rfl rfl (by kernel_rfl) (by kernel_rfl) (by kernel_rfl) (fun _ _ _ h => h) (by rfl) ?hh2_2 (by assumption) ?_
            case hh2_2 => (intro wq hSw; (try dsimp only at hSw); go_simp; (try (with_reducible rfl)))
            go_frame
            refine wpAnyH_takeD (some 34) (i := 3) (v := ?vh2_3) rfl rfl (by kernel_rfl) (by kernel_rfl) (by kernel_rfl) (fun _ _ _ h => h) (by rfl) ?hh2_3 (by assumption) ?_
            case hh2_3 => (intro wq hSw; (try dsimp only at hSw); go_simp; (try (with_reducible rfl)))
            go_frame
            refine wpAnyH_takeD (some 35) (i := 4) (v := ?vh2_4) rfl rfl (by kernel_rfl) (by kernel_rfl) (by kernel_rfl) (fun _ _ _ h => h) (by rfl) ?hh2_4 (by assumption) ?_
            case hh2_4 => (intro wq hSw; (try dsimp only at hSw); go_simp; (try (with_reducible rfl)))
            go_frame
            refine wpAnyH_takeD (some 37) (i := 6) (v := ?vh2_6) rfl rfl (by kernel_rfl) (by kernel_rfl) (by kernel_rfl) (fun _ _ _ h => h) (by rfl) ?hh2_6 (by assumption) ?_
            case hh2_6 => (intro wq hSw; (try dsimp only at hSw); go_simp; (try (with_reducible rfl)))
            go_frame
            refine wpAnyH_takeD (some 38) (i := 7) (v := ?vh2_7) rfl rfl (by kernel_rfl) (by kernel_rfl) (by kernel_rfl) (fun _ _ _ h => h) (by rfl) ?hh2_7 (by assumption) ?_
            case hh2_7 => (intro wq hSw; (try dsimp only at hSw); go_simp; (try (with_reducible rfl)))
            go_frame
            refine wpAnyH_takeD (some 39) (i := 8) (v := ?vh2_8) rfl rfl (by kernel_rfl) (by kernel_rfl) (by kernel_rfl) (fun _ _ _ h => h) (by rfl) ?hh2_8 (by assumption) ?_
            case hh2_8 => (intro wq hSw; (try dsimp only at hSw); go_simp; (try (with_reducible rfl)))
            go_frame
            refine wpAnyH_takeD (some 40) (i := 9) (v := ?vh2_9) rfl rfl (by kernel_rfl) (by kernel_rfl) (by kernel_rfl) (fun _ _ _ h => h) (by rfl) ?hh2_9 (by assumption) ?_
            case hh2_9 => (intro wq hSw; (try dsimp only at hSw); go_simp; (try (with_reducible rfl)))
            go_frame
            refine wpAnyH_takeD (some 41) (i := 10) (v := ?vh2_10) rfl rfl (by kernel_rfl) (by kernel_rfl) (by kernel_rfl) (fun _ _ _ h => h) (by rfl) ?hh2_10 (by assumption) ?_
            case hh2_10 => (intro wq hSw; (try dsimp only at hSw); go_simp; (try (with_reducible rfl)))
            go_frame
            refine wpAnyH_ready (rs := [5]) (by kernel_rfl) (by simp) ?_
            refine AllReadyH.cons rfl (fun K hK => ?_) AllReadyH.nil
            go_simp
            refine (HA.out _ hbw.drew).mono ?_; rintro en w2 ⟨L2, ⟨v2, rfl, hb2, hown2⟩, hs2, he2, hl2⟩; have hbw2 := hbw.drew.trans (hb2.mono hbw.size); have HV2 := Lib.hid (own_vslice hown2 rfl); have HE2 := Lib.hid (And.intro hs2 (And.intro he2 hl2)); clear hown2 hs2 he2 hl2
            go_wp2_with fail
            refine hK.out _ _ (trivial) (fun hHeld => ?_)
            clear hK K
            try go_frame
            refine wpAnyH_ready (rs := [11]) (by kernel_rfl) (by simp) ?_
            refine AllReadyH.cons rfl (fun K hK => ?_) AllReadyH.nil
            go_simp
            refine (HB.out _ hbw2).mono ?_; rintro en w3 ⟨L3, ⟨v3, rfl, hb3, hown3⟩, hs3, he3, hl3⟩; have hbw3 := hbw2.trans (hb3.mono hbw2.size); have HV3 := Lib.hid (own_vslice hown3 rfl); have HE3 := Lib.hid (And.intro hs3 (And.intro he3 hl3)); have HV2' := Lib.hid (HV2.out.below hb3); clear hown3 hs3 he3 hl3
            go_wp2_with fail
            refine hK.out _ _ (trivial) (fun hHeld => ?_)
            clear hK K
            try go_frame
            refine wpAnyH_takeD (some 5) (i := 12) (v := ?vh2_12) rfl rfl (by kernel_rfl) (by kernel_rfl) (by kernel_rfl) (fun _ _ _ h => h) (by rfl) ?hh2_12 (by assumption) ?_
            case hh2_12 => (intro wq hSw; (try dsimp only at hSw); go_simp; (try (with_reducible rfl)))
            go_frame
            refine wpAnyH_takeD (some 6) (i := 13) (v := ?vh2_13) rfl rfl (by kernel_rfl) (by kernel_rfl) (by kernel_rfl) (fun _ _ _ h => h) (by rfl) ?hh2_13 (by assumption) ?_
            case hh2_13 => (intro wq hSw; (try dsimp only at hSw); go_simp; (try (with_reducible rfl)))
            go_frame
            refine wpAnyH_done (by kernel_rfl) ?_ _
            refine NoPanic.normal ?_
            go_wp2_with fail
            go_meet
            exact ⟨L2, L3, HV2'.out, HV3.out, HE2.out.1, HE3.out.1, HE2.out.2.1, HE3.out.2.1, HE2.out.2.2, HE3.out.2.2, hbw3⟩
          case rest =>
            clear hbw HA HB HRec HR
            obtain ⟨L0, M0, hL0, hM0, sL0, sM0, eL0, eM0, lL0, lM0, hbw⟩ := hcut
            have HAll : Hid (MInv l [] L0 M0) := ⟨sL0, sM0, fun x => by
              rw [eL0, eM0, ← List.mem_append, List.take_append_drop]
              simp⟩
            have hlen0 : L0.length + M0.length ≤ n := by
              rw [List.length_take, HN.out] at lL0
              rw [List.length_drop, HN.out] at lM0
              omega
            obtain ⟨W0, hW0⟩ : ∃ W0, W0 = wc := ⟨_, rfl⟩
            subst hW0
            have HBW := Lib.hid hbw
            have HL0 := Lib.hid hL0
            have HM0 := Lib.hid hM0
            clear eL0 eM0 sL0 sM0 lL0 lM0 hbw hL0 hM0 hasc hq hqw hkl hkm hk0
            go_wp2
            go_loopw [5, 6, 7] (fun s t v wr => VMrg l n W0 s t v wr) (fun s t _ _ => lenOfV s + lenOfV t)
            case atStart => exact ⟨L0, M0, [], HL0.out, HM0.out, ⟨by simp, .inl ⟨rfl, rfl⟩⟩, Below.refl _ _, HAll.out, by simpa using hlen0⟩
            case round =>
              clear HAll hlen0 HL0 HM0 L0 M0
              obtain ⟨L, M, O, ⟨A1, c1, rfl, hr1, hc1, hm1⟩, ⟨A2, c2, rfl, hr2, hc2, hm2⟩, hown, hbj, hall, hlen⟩ := hrel
              unfold maxLen at hm1 hm2
              generalize hp : L.length = p at *
              generalize hq : M.length = q at *
              have HP := Lib.hid hp
              have HQ := Lib.hid hq
              have HR1 := Lib.hid hr1
              have HR2 := Lib.hid hr2
              have HOwn := Lib.hid hown
              have HAL := Lib.hid hall
              have hOle : O.length ≤ 1000000 := by omega
              clear hp hq hr1 hr2 hown hall
              obtain ⟨r0, hr0⟩ : ∃ r, r = (decide (0 < p) || decide (0 < q)) := ⟨_, rfl⟩
              have HR0 := Lib.hid hr0
              clear hr0
              go_upto_region 10 with fail
              go_cut [50] (fun s wx => VCut r0 W0 u7 O s wx)
              case first =>
                by_cases h1 : 0 < p
                · have d1 : decide (0 < p) = true := by simp; omega
                  go_wp2
                  go_meet
                  exact ⟨by rw [HR0.out]; simp [h1], HOwn.out, hbj⟩
                · obtain rfl : p = 0 := by omega
                  by_cases h2 : 0 < q
                  · have d2 : decide ((0 : Int) < (q : Int)) = true := by simp; omega
                    go_wp2
                    go_meet
                    exact ⟨by rw [HR0.out]; simp [h2], HOwn.out, hbj⟩
                  · obtain rfl : q = 0 := by omega
                    go_wp2
                    go_meet
                    exact ⟨by rw [HR0.out]; rfl, HOwn.out, hbj⟩
              case rest =>
                clear hbj HOwn
                obtain ⟨rfl, hown, hbj⟩ := hcut
                have HOwn := Lib.hid hown
                clear hown
                cases r0 with
                | false =>
                  have hz : p = 0 ∧ q = 0 := by
                    have h := HR0.out
                    simp at h
                    omega
                  obtain ⟨rfl, rfl⟩ := hz
                  go_wp2
                  go_ret
                  have e1 : L = [] := List.eq_nil_of_length_eq_zero HP.out
                  have e2 : M = [] := List.eq_nil_of_length_eq_zero HQ.out
                  have h := HAL.out
                  rw [e1, e2] at h
                  refine ⟨O, ⟨_, rfl, HBW.out.trans (hbj.mono HBW.out.size), own_base HOwn.out HBW.out.size⟩, by have := h.1; rwa [List.append_nil] at this, fun x => by rw [h.2.2 x]; simp, by rw [HN.out]; omega⟩
                | true =>
                  have HNZ : Hid (0 < p ∨ 0 < q) := by
                    have h := HR0.out
                    simp at h
                    unfold Hid
                    omega
                  clear HR0
                  obtain ⟨r1, hr1⟩ : ∃ r, r = vheadA L M := ⟨_, rfl⟩
                  have HA1 := Lib.hid hr1
                  clear hr1
                  go_upto_region 12 with fail
                  go_cut [53] (fun s wx => VCut r1 W0 u7 O s wx)
                  case first =>
                    by_cases hq0 : q = 0
                    · subst hq0
                      refine wp_region_noPanic ?_
                      refine wp_region_held_drew (S := fun _ => True) (by kernel_rfl) (trivial) (fun hHeld => ?_)
                      refine wpAnyH_takeD (some 54) (i := 0) (v := ?vh3_0) rfl rfl (by kernel_rfl) (by kernel_rfl) (by kernel_rfl) (fun _ _ _ h => h) (by rfl) ?hh3_0 (by assumption) ?_
                      case hh3_0 => (intro wq hSw; (try dsimp only at hSw); go_simp; (try (with_reducible rfl)))
                      go_frame
                      refine wpAnyH_takeD (some 55) (i := 1) (v := ?vh3_1) rfl rfl (by kernel_rfl) (by kernel_rfl) (by kernel_rfl) (fun _ _ _ h => h) (by rfl) ?hh3_1 (by assumption) ?_
                      case hh3_1 => (intro wq hSw; (try dsimp only at hSw); go_simp; (try (with_reducible rfl)))
                      go_frame
                      refine wpAnyH_takeD (some 56) (i := 2) (v := ?vh3_2) rfl rfl (by kernel_rfl) (by kernel_rfl) (by kernel_rfl) (fun _ _ _ h => h) (by rfl) ?hh3_2 (by assumption) ?_
                      case hh3_2 => (intro wq hSw; (try dsimp only at hSw); go_simp; (try (with_reducible rfl)))
                      go_frame
                      refine wpAnyH_takeD (some 57) (i := 3) (v := ?vh3_3) rfl rfl (by kernel_rfl) (by kernel_rfl) (by kernel_rfl) (fun _ _ _ h => h) (by rfl) ?hh3_3 (by assumption) ?_
                      case hh3_3 => (intro wq hSw; (try dsimp only at hSw); go_simp; (try (with_reducible rfl)))
                      go_frame
                      refine wpAnyH_skipD (some 58) (i := 4) rfl rfl (by kernel_rfl) (by kernel_rfl) (by kernel_rfl) (fun _ _ _ h => h) (by rfl) (by assumption) ?_
                      go_frame
                      refine wpAnyH_skipD (some 59) (i := 5) rfl rfl (by kernel_rfl) (by kernel_rfl) (by kernel_rfl) (fun _ _ _ h => h) (by rfl) (by assumption) ?_
                      go_frame
                      refine wpAnyH_skipD (some 60) (i := 6) rfl rfl (by kernel_rfl) (by kernel_rfl) (by kernel_rfl) (fun _ _ _ h => h) (by rfl) (by assumption) ?_
                      go_frame
                      refine wpAnyH_skipD (some 61) (i := 7) rfl rfl (by kernel_rfl) (by kernel_rfl) (by kernel_rfl) (fun _ _ _ h => h) (by rfl) (by assumption) ?_
                      go_frame
                      refine wpAnyH_skipD (some 62) (i := 8) rfl rfl (by kernel_rfl) (by kernel_rfl) (by kernel_rfl) (fun _ _ _ h => h) (by rfl) (by assumption) ?_
                      go_frame
                      refine wpAnyH_skipD (some 63) (i := 9) rfl rfl (by kernel_rfl) (by kernel_rfl) (by kernel_rfl) (fun _ _ _ h => h) (by rfl) (by assumption) ?_
                      go_frame
                      refine wpAnyH_skipD (some 64) (i := 10) rfl rfl (by kernel_rfl) (by kernel_rfl) (by kernel_rfl) (fun _ _ _ h => h) (by rfl) (by assumption) ?_
                      go_frame
                      refine wpAnyH_skipD (some 65) (i := 11) rfl rfl (by kernel_rfl) (by kernel_rfl) (by kernel_rfl) (fun _ _ _ h => h) (by rfl) (by assumption) ?_
                      go_frame
                      refine wpAnyH_skipD (some 66) (i := 12) rfl rfl (by kernel_rfl) (by kernel_rfl) (by kernel_rfl) (fun _ _ _ h => h) (by rfl) (by assumption) ?_
                      go_frame
                      refine wpAnyH_skipD (some 67) (i := 13) rfl rfl (by kernel_rfl) (by kernel_rfl) (by kernel_rfl) (fun _ _ _ h => h) (by rfl) (by assumption) ?_
                      go_frame
                      refine wpAnyH_skipD (some 68) (i := 14) rfl rfl (by kernel_rfl) (by kernel_rfl) (by kernel_rfl) (fun _ _ _ h => h) (by rfl) (by assumption) ?_
                      go_frame
                      refine wpAnyH_skipD (some 69) (i := 15) rfl rfl (by kernel_rfl) (by kernel_rfl) (by kernel_rfl) (fun _ _ _ h => h) (by rfl) (by assumption) ?_
                      go_frame
                      refine wpAnyH_takeD (some 70) (i := 16) (v := ?vh3_16) rfl rfl (by kernel_rfl) (by kernel_rfl) (by kernel_rfl) (fun _ _ _ h => h) (by rfl) ?hh3_16 (by assumption) ?_
                      case hh3_16 => (intro wq hSw; (try dsimp only at hSw); go_simp; (try (with_reducible rfl)))
                      go_frame
                      refine wpAnyH_takeD (some 53) (i := 17) (v := ?vh3_17) rfl rfl (by kernel_rfl) (by kernel_rfl) (by kernel_rfl) (fun _ _ _ h => h) (by rfl) ?hh3_17 (by assumption) ?_
                      case hh3_17 => (intro wq hSw; (try dsimp only at hSw); go_simp; (try (with_reducible rfl)))
                      go_frame
                      refine wpAnyH_done (by kernel_rfl) ?_ _
                      refine NoPanic.normal ?_
                      go_wp2_with fail
                      go_meet
                      have e2 : M = [] := List.eq_nil_of_length_eq_zero HQ.out
                      exact ⟨by rw [HA1.out, e2]; cases L <;> rfl, own_drew HOwn.out, hbj.drew⟩
                    · have dq : decide ((q : Int) = 0) = false := by simp; omega
                      have dq2 : ((q : Int) == 0) = false := by simp; omega
                      have dq3 : decide (q = 0) = false := by simp; omega
                      have dq4 : (q == 0) = false := by simp; omega
                      obtain ⟨y, M', hM⟩ := cons_of_len HQ.out hq0
                      have HM := Lib.hid hM
                      clear hM
                      by_cases hp0 : p = 0
                      · subst hp0
                        refine wp_region_noPanic ?_
                        refine wp_region_held_drew (S := fun _ => True) (by kernel_rfl) (trivial) (fun hHeld => ?_)
                        refine wpAnyH_takeD (some 54) (i := 0) (v := ?vh4_0) rfl rfl (by kernel_rfl) (by kernel_rfl) (by kernel_rfl) (fun _ _ _ h => h) (by rfl) ?hh4_0 (by assumption) ?_
                        case hh4_0 => (intro wq hSw; (try dsimp only at hSw); go_simp; (try (with_reducible rfl)))
                        go_frame
                        refine wpAnyH_takeD (some 55) (i := 1) (v := ?vh4_1) rfl rfl (by kernel_rfl) (by kernel_rfl) (by kernel_rfl) (fun _ _ _ h => h) (by rfl) ?hh4_1 (by assumption) ?_
                        case hh4_1 => (intro wq hSw; (try dsimp only at hSw); go_simp; (try (with_reducible rfl)))
                        go_frame
                        refine wpAnyH_takeD (some 56) (i := 2) (v := ?vh4_2) rfl rfl (by kernel_rfl) (by kernel_rfl) (by kernel_rfl) (fun _ _ _ h => h) (by rfl) ?hh4_2 (by assumption) ?_
                        case hh4_2 => (intro wq hSw; (try dsimp only at hSw); go_simp; (try (with_reducible rfl)))
                        go_frame
                        refine wpAnyH_takeD (some 57) (i := 3) (v := ?vh4_3) rfl rfl (by kernel_rfl) (by kernel_rfl) (by kernel_rfl) (fun _ _ _ h => h) (by rfl) ?hh4_3 (by assumption) ?_
                        case hh4_3 => (intro wq hSw; (try dsimp only at hSw); go_simp; (try (with_reducible rfl)))
                        go_frame
                        refine wpAnyH_takeD (some 58) (i := 4) (v := ?vh4_4) rfl rfl (by kernel_rfl) (by kernel_rfl) (by kernel_rfl) (fun _ _ _ h => h) (by rfl) ?hh4_4 (by assumption) ?_
                        case hh4_4 => (intro wq hSw; (try dsimp only at hSw); go_simp; (try (with_reducible rfl)))
                        go_frame
                        refine wpAnyH_takeD (some 59) (i := 5) (v := ?vh4_5) rfl rfl (by kernel_rfl) (by kernel_rfl) (by kernel_rfl) (fun _ _ _ h => h) (by rfl) ?hh4_5 (by assumption) ?_
                        case hh4_5 => (intro wq hSw; (try dsimp only at hSw); go_simp; (try (with_reducible rfl)))
                        go_frame
                        refine wpAnyH_takeD (some 60) (i := 6) (v := ?vh4_6) rfl rfl (by kernel_rfl) (by kernel_rfl) (by kernel_rfl) (fun _ _ _ h => h) (by rfl) ?hh4_6 (by assumption) ?_
                        case hh4_6 => (intro wq hSw; (try dsimp only at hSw); go_simp; (try (with_reducible rfl)))
                        go_frame
                        refine wpAnyH_takeD (some 61) (i := 7) (v := ?vh4_7) rfl rfl (by kernel_rfl) (by kernel_rfl) (by kernel_rfl) (fun _ _ _ h => h) (by rfl) ?hh4_7 (by assumption) ?_
                        case hh4_7 => (intro wq hSw; (try dsimp only at hSw); go_simp; (try (with_reducible rfl)))
                        go_frame
                        refine wpAnyH_skipD (some 62) (i := 8) rfl rfl (by kernel_rfl) (by kernel_rfl) (by kernel_rfl) (fun _ _ _ h => h) (by rfl) (by assumption) ?_
                        go_frame
                        refine wpAnyH_skipD (some 63) (i := 9) rfl rfl (by kernel_rfl) (by kernel_rfl) (by kernel_rfl) (fun _ _ _ h => h) (by rfl) (by assumption) ?_
                        go_frame
                        refine wpAnyH_skipD (some 64) (i := 10) rfl rfl (by kernel_rfl) (by kernel_rfl) (by kernel_rfl) (fun _ _ _ h => h) (by rfl) (by assumption) ?_
                        go_frame
                        refine wpAnyH_skipD (some 65) (i := 11) rfl rfl (by kernel_rfl) (by kernel_rfl) (by kernel_rfl) (fun _ _ _ h => h) (by rfl) (by assumption) ?_
                        go_frame
                        refine wpAnyH_skipD (some 66) (i := 12) rfl rfl (by kernel_rfl) (by kernel_rfl) (by kernel_rfl) (fun _ _ _ h => h) (by rfl) (by assumption) ?_
                        go_frame
                        refine wpAnyH_skipD (some 67) (i := 13) rfl rfl (by kernel_rfl) (by kernel_rfl) (by kernel_rfl) (fun _ _ _ h => h) (by rfl) (by assumption) ?_
                        go_frame
                        refine wpAnyH_skipD (some 68) (i := 14) rfl rfl (by kernel_rfl) (by kernel_rfl) (by kernel_rfl) (fun _ _ _ h => h) (by rfl) (by assumption) ?_
                        go_frame
                        refine wpAnyH_takeD (some 69) (i := 15) (v := ?vh4_15) rfl rfl (by kernel_rfl) (by kernel_rfl) (by kernel_rfl) (fun _ _ _ h => h) (by rfl) ?hh4_15 (by assumption) ?_
                        case hh4_15 => (intro wq hSw; (try dsimp only at hSw); go_simp; (try (with_reducible rfl)))
                        go_frame
                        refine wpAnyH_takeD (some 70) (i := 16) (v := ?vh4_16) rfl rfl (by kernel_rfl) (by kernel_rfl) (by kernel_rfl) (fun _ _ _ h => h) (by rfl) ?hh4_16 (by assumption) ?_
                        case hh4_16 => (intro wq hSw; (try dsimp only at hSw); go_simp; (try (with_reducible rfl)))
                        go_frame
                        refine wpAnyH_takeD (some 53) (i := 17) (v := ?vh4_17) rfl rfl (by kernel_rfl) (by kernel_rfl) (by kernel_rfl) (fun _ _ _ h => h) (by rfl) ?hh4_17 (by assumption) ?_
                        case hh4_17 => (intro wq hSw; (try dsimp only at hSw); go_simp; (try (with_reducible rfl)))
                        go_frame
                        refine wpAnyH_done (by kernel_rfl) ?_ _
                        refine NoPanic.normal ?_
                        go_wp2_with fail
                        go_meet
                        have e1 : L = [] := List.eq_nil_of_length_eq_zero HP.out
                        exact ⟨by rw [HA1.out, e1, HM.out]; rfl, own_drew HOwn.out, hbj.drew⟩
                      · have dp : decide ((0 : Int) < (p : Int)) = true := by simp; omega
                        have dp2 : decide (0 < p) = true := by simp; omega
                        obtain ⟨x, L', hL⟩ := cons_of_len HP.out hp0
                        have HL := Lib.hid hL
                        clear hL
                        rw [HL.out] at HR1
                        rw [HM.out] at HR2
                        obtain ⟨b1, o1, rfl⟩ := HR1.out.vtFirst
                        obtain ⟨b2, o2, rfl⟩ := HR2.out.vtFirst
                        have ip : 0 < p := by omega
                        have iq : 0 < q := by omega
                        have HRows : Hid (∀ W, Below W0.heap.size W0 W → rowAt W b1 o1 22 = some x.cells ∧ rowAt W b2 o2 22 = some y.cells) := fun W hW => ⟨(HR1.out.below hW).vt0, (HR2.out.below hW).vt0⟩
                        have HLe : Hid (∀ W, Calls Try.prog 64 #[x.val, y.val] W (BoolPost W (lessV x y))) := fun W => rvless_any x y W
                        refine wp_region_noPanic ?_
                        refine wp_region_held_drew (S := fun w' => rowAt w' b1 o1 22 = some x.cells ∧ rowAt w' b2 o2 22 = some y.cells) (by kernel_rfl) (HRows.out _ hbj.drew) (fun hHeld => ?_)
                        refine wpAnyH_takeD (some 54) (i := 0) (v := ?vh5_0) rfl rfl (by kernel_rfl) (by kernel_rfl) (by kernel_rfl) (fun _ _ _ h => h) (by rfl) ?hh5_0 (by assumption) ?_
                        case hh5_0 => (intro wq hSw; (try dsimp only at hSw); go_simp; (try (with_reducible rfl)))
                        go_frame
                        refine wpAnyH_takeD (some 55) (i := 1) (v := ?vh5_1) rfl rfl (by kernel_rfl) (by kernel_rfl) (by kernel_rfl) (fun _ _ _ h => h) (by rfl) ?hh5_1 (by assumption) ?_
                        case hh5_1 => (intro wq hSw; (try dsimp only at hSw); go_simp; (try (with_reducible rfl)))
                        go_frame
                        refine wpAnyH_takeD (some 56) (i := 2) (v := ?vh5_2) rfl rfl (by kernel_rfl) (by kernel_rfl) (by kernel_rfl) (fun _ _ _ h => h) (by rfl) ?hh5_2 (by assumption) ?_
                        case hh5_2 => (intro wq hSw; (try dsimp only at hSw); go_simp; (try (with_reducible rfl)))
                        go_frame
                        refine wpAnyH_takeD (some 57) (i := 3) (v := ?vh5_3) rfl rfl (by kernel_rfl) (by kernel_rfl) (by kernel_rfl) (fun _ _ _ h => h) (by rfl) ?hh5_3 (by assumption) ?_
                        case hh5_3 => (intro wq hSw; (try dsimp only at hSw); go_simp; (try (with_reducible rfl)))
                        go_frame
                        refine wpAnyH_takeD (some 58) (i := 4) (v := ?vh5_4) rfl rfl (by kernel_rfl) (by kernel_rfl) (by kernel_rfl) (fun _ _ _ h => h) (by rfl) ?hh5_4 (by assumption) ?_
                        case hh5_4 => (intro wq hSw; (try dsimp only at hSw); go_simp; (try (with_reducible rfl)))
                        go_frame
                        refine wpAnyH_takeD (some 59) (i := 5) (v := ?vh5_5) rfl rfl (by kernel_rfl) (by kernel_rfl) (by kernel_rfl) (fun _ _ _ h => h) (by rfl) ?hh5_5 (by assumption) ?_
                        case hh5_5 => (intro wq hSw; (try dsimp only at hSw); go_simp; (try (with_reducible rfl)))
                        go_frame
                        refine wpAnyH_takeD (some 60) (i := 6) (v := ?vh5_6) rfl rfl (by kernel_rfl) (by kernel_rfl) (by kernel_rfl) (fun _ _ _ h => h) (by rfl) ?hh5_6 (by assumption) ?_
                        case hh5_6 => (intro wq hSw; (try dsimp only at hSw); go_simp; (try (with_reducible rfl)))
                        go_frame
                        refine wpAnyH_takeD (some 61) (i := 7) (v := ?vh5_7) rfl rfl (by kernel_rfl) (by kernel_rfl) (by kernel_rfl) (fun _ _ _ h => h) (by rfl) ?hh5_7 (by assumption) ?_
                        case hh5_7 => (intro wq hSw; (try dsimp only at hSw); go_simp; (try (with_reducible rfl)))
                        go_frame
                        refine wpAnyH_takeD (some 62) (i := 8) (v := ?vh5_8) rfl rfl (by kernel_rfl) (by kernel_rfl) (by kernel_rfl) (fun _ _ _ h => h) (by rfl) ?hh5_8 (by assumption) ?_
                        case hh5_8 => (intro wq hSw; (try dsimp only at hSw); go_simp; (try (with_reducible rfl)))
                        go_frame
                        refine wpAnyH_takeD (some 63) (i := 9) (v := ?vh5_9) rfl rfl (by kernel_rfl) (by kernel_rfl) (by kernel_rfl) (fun _ _ _ h => h) (by rfl) ?hh5_9 (by assumption) ?_
                        case hh5_9 => (intro wq hSw; (try dsimp only at hSw); go_simp; (try (with_reducible rfl)))
                        go_frame
                        refine wpAnyH_takeD (some 64) (i := 10) (v := ?vh5_10) rfl rfl (by kernel_rfl) (by kernel_rfl) (by kernel_rfl) (fun _ _ _ h => h) (by rfl) ?hh5_10 (by assumption) ?_
                        case hh5_10 => (intro wq hSw; (try dsimp only at hSw); go_simp; (try (with_reducible rfl)))
                        go_frame
                        refine wpAnyH_takeD (some 65) (i := 11) (v := ?vh5_11) rfl rfl (by kernel_rfl) (by kernel_rfl) (by kernel_rfl) (fun _ _ _ h => h) (by rfl) ?hh5_11 (by assumption) ?_
                        case hh5_11 => (intro wq hSw; (try dsimp only at hSw); go_simp; (try (with_reducible rfl)))
                        go_frame
                        refine wpAnyH_takeD (some 66) (i := 12) (v := ?vh5_12) rfl rfl (by kernel_rfl) (by kernel_rfl) (by kernel_rfl) (fun _ _ _ h => h) (by rfl) ?hh5_12 (by assumption) ?_
                        case hh5_12 => (intro wq hSw; (try dsimp only at hSw); go_simp; (try (with_reducible rfl)))
                        go_frame
                        refine wpAnyH_takeD (some 67) (i := 13) (v := ?vh5_13) rfl rfl (by kernel_rfl) (by kernel_rfl) (by kernel_rfl) (fun _ _ _ h => h) (by rfl) ?hh5_13 (by assumption) ?_
                        case hh5_13 => (intro wq hSw; (try dsimp only at hSw); go_simp; (try (with_reducible rfl)))
                        go_frame
                        refine wpAnyH_ready (rs := [14]) (by kernel_rfl) (by simp) ?_
                        refine AllReadyH.cons rfl (fun K hK => ?_) AllReadyH.nil
                        go_simp
                        refine (HLe.out _).mono ?_; rintro en w2 ⟨rfl, hb2⟩; have hbj2 := hbj.drew.trans (hb2.mono hbj.size); have HOwn2 := Lib.hid (own_below (own_drew HOwn.out) hb2 (Nat.le_refl _))
                        go_wp2_with fail
                        refine hK.out _ _ (HRows.out _ hbj2) (fun hHeld => ?_)
                        clear hK K
                        try go_frame
                        refine wpAnyH_takeD (some 69) (i := 15) (v := ?vh5_15) rfl rfl (by kernel_rfl) (by kernel_rfl) (by kernel_rfl) (fun _ _ _ h => h) (by rfl) ?hh5_15 (by assumption) ?_
                        case hh5_15 => (intro wq hSw; (try dsimp only at hSw); go_simp; (try (with_reducible rfl)))
                        go_frame
                        refine wpAnyH_takeD (some 70) (i := 16) (v := ?vh5_16) rfl rfl (by kernel_rfl) (by kernel_rfl) (by kernel_rfl) (fun _ _ _ h => h) (by rfl) ?hh5_16 (by assumption) ?_
                        case hh5_16 => (intro wq hSw; (try dsimp only at hSw); go_simp; (try (with_reducible rfl)))
                        go_frame
                        refine wpAnyH_takeD (some 53) (i := 17) (v := ?vh5_17) rfl rfl (by kernel_rfl) (by kernel_rfl) (by kernel_rfl) (fun _ _ _ h => h) (by rfl) ?hh5_17 (by assumption) ?_
                        case hh5_17 => (intro wq hSw; (try dsimp only at hSw); go_simp; (try (with_reducible rfl)))
                        go_frame
                        refine wpAnyH_done (by kernel_rfl) ?_ _
                        refine NoPanic.normal ?_
                        go_wp2_with fail
                        go_meet
                        exact ⟨by rw [HA1.out, HL.out, HM.out]; rfl, HOwn2.out, hbj2⟩
                  case rest =>
                    clear hbj HOwn
                    obtain ⟨rfl, hown, hbj⟩ := hcut
                    have HOwn := Lib.hid hown
                    clear hown
                    cases r1 with
                    | true =>
                      have hp0 : ¬ p = 0 := by
                        intro h
                        have e1 : L = [] := List.eq_nil_of_length_eq_zero (HP.out.trans h)
                        have hq0 : ¬ q = 0 := by have := HNZ.out; omega
                        obtain ⟨y, M', hM⟩ := cons_of_len HQ.out hq0
                        have := HA1.out
                        rw [e1, hM] at this
                        cases this
                      obtain ⟨x, L', hL⟩ := cons_of_len HP.out hp0
                      have HAL' : Hid (MInv l (O ++ [x]) L' M) := by
                        have h := HAL.out
                        unfold Hid
                        rw [hL] at h
                        cases hM : M with
                        | nil => rw [hM] at h; exact h.takeA0
                        | cons y M' =>
                          have h1 := HA1.out
                          rw [hL, hM] at h1
                          have h2 : lessV x y = true := h1.symm
                          rw [hM] at h
                          exact h.takeA h2
                      have HL := Lib.hid hL
                      clear hL HA1
                      rw [HL.out] at HR1 HP
                      obtain ⟨p', rfl⟩ : ∃ p', p = p' + 1 := ⟨L'.length, HP.out.symm⟩
                      have HP' : Hid (L'.length = p') := Nat.succ.inj HP.out
                      obtain ⟨b1, o1, rfl⟩ := HR1.out.vtFirst
                      have ip : (0 : Int) < (p' : Int) + 1 := by omega
                      have ip1 : (1 : Int) ≤ (p' : Int) + 1 := by omega
                      have ic1 : (1 : Int) ≤ (c1 : Int) := by omega
                      have hpc : ((p' : Int) + 1) ≤ (c1 : Int) := by omega
                      have hrow : rowAt wc b1 o1 22 = some x.cells := (HR1.out.below hbj).vt0
                      go_wp2_with ((first
                        | (refine wpList_build1 rfl 51 41 (.tmp 74) rfl x.cells rfl Try.underlying51 (by kernel_rfl) (by decide) (by decide) ?_)
                        | (at_builtin; refine wpList_app rfl (.tmp 71) (.tmp 75) _ rfl W0.heap.size 41 (.agg zeroV.cells) 22 64 Try.underlying51 info_vote rfl (by decide) u7 O.length (O.flatMap vtc) rfl ?r0 (wc.heap.size + 1) (some ⟨wc.heap.size, 0, none⟩) 1 1 (vtc x) rfl ?r1 ?r2 ?r3 ?r4 ?r5 ?r6 ?_)))
                      case r0 => exact HOwn.out.alloc _
                      case r1 => rfl
                      case r2 => exact Rd.mk (by omega) (fun j u hu => by rw [Nat.zero_add, (Blk.new wc _ _).cell]; simpa using hu)
                      case r3 => exact fun u hu => one_vt x hu
                      case r4 => omega
                      case r5 => unfold maxLen; omega
                      case r6 => have := hbj.size; simp; omega
                      intro v3 w3 hown3 hg3 hat3
                      have hbj3 : Below W0.heap.size W0 w3 := below_own (hbj.alloc hbj.size _) (HOwn.out.alloc _) hg3
                      have HOwn3 := Lib.hid hown3
                      clear hown3 hg3 hat3 hrow
                      go_wp2
                      go_roundw
                      case rel =>
                        refine ⟨L', M, O ++ [x], ?_, ⟨A2, c2, by rw [HQ.out], HR2.out, by rw [HQ.out]; exact hc2, hm2⟩, ?_, hbj3, HAL'.out, by rw [List.length_append, HP'.out, HQ.out]; simp; omega⟩
                        · have h := VlOk.tail HR1.out (c := c1) (by rw [HP'.out]; exact hc1) hm1
                          rw [HP'.out] at h
                          simpa using h
                        · have h := HOwn3.out
                          rw [List.length_append, List.flatMap_append]
                          simpa using h
                      case measure => simp [lenOfV]
                    | false =>
                      have hq0 : ¬ q = 0 := by
                        intro h
                        have e2 : M = [] := List.eq_nil_of_length_eq_zero (HQ.out.trans h)
                        have := HA1.out
                        rw [e2] at this
                        cases L <;> cases this
                      obtain ⟨y, M', hM⟩ := cons_of_len HQ.out hq0
                      have HM := Lib.hid hM
                      clear hM
                      rw [HM.out] at HR2
                      obtain ⟨b2, o2, rfl⟩ := HR2.out.vtFirst
                      have iq : 0 < q := by omega
                      obtain ⟨r2, hr2⟩ : ∃ r, r = vheadB L M := ⟨_, rfl⟩
                      have HB1 := Lib.hid hr2
                      clear hr2
                      go_upto_region 15 with fail
                      go_cut [79] (fun s wx => VCut r2 W0 u7 O s wx)
                      case first =>
                        by_cases hp0 : p = 0
                        · subst hp0
                          refine wp_region_noPanic ?_
                          refine wp_region_held_drew (S := fun _ => True) (by kernel_rfl) (trivial) (fun hHeld => ?_)
                          refine wpAnyH_takeD (some 80) (i := 0) (v := ?vh6_0) rfl rfl (by kernel_rfl) (by kernel_rfl) (by kernel_rfl) (fun _ _ _ h => h) (by rfl) ?hh6_0 (by assumption) ?_
                          case hh6_0 => (intro wq hSw; (try dsimp only at hSw); go_simp; (try (with_reducible rfl)))
                          go_frame
                          refine wpAnyH_takeD (some 81) (i := 1) (v := ?vh6_1) rfl rfl (by kernel_rfl) (by kernel_rfl) (by kernel_rfl) (fun _ _ _ h => h) (by rfl) ?hh6_1 (by assumption) ?_
                          case hh6_1 => (intro wq hSw; (try dsimp only at hSw); go_simp; (try (with_reducible rfl)))
                          go_frame
                          refine wpAnyH_takeD (some 82) (i := 2) (v := ?vh6_2) rfl rfl (by kernel_rfl) (by kernel_rfl) (by kernel_rfl) (fun _ _ _ h => h) (by rfl) ?hh6_2 (by assumption) ?_
                          case hh6_2 => (intro wq hSw; (try dsimp only at hSw); go_simp; (try (with_reducible rfl)))
                          go_frame
                          refine wpAnyH_takeD (some 83) (i := 3) (v := ?vh6_3) rfl rfl (by kernel_rfl) (by kernel_rfl) (by kernel_rfl) (fun _ _ _ h => h) (by rfl) ?hh6_3 (by assumption) ?_
                          case hh6_3 => (intro wq hSw; (try dsimp only at hSw); go_simp; (try (with_reducible rfl)))
                          go_frame
                          refine wpAnyH_skipD (some 84) (i := 4) rfl rfl (by kernel_rfl) (by kernel_rfl) (by kernel_rfl) (fun _ _ _ h => h) (by rfl) (by assumption) ?_
                          go_frame
                          refine wpAnyH_skipD (some 85) (i := 5) rfl rfl (by kernel_rfl) (by kernel_rfl) (by kernel_rfl) (fun _ _ _ h => h) (by rfl) (by assumption) ?_
                          go_frame
                          refine wpAnyH_skipD (some 86) (i := 6) rfl rfl (by kernel_rfl) (by kernel_rfl) (by kernel_rfl) (fun _ _ _ h => h) (by rfl) (by assumption) ?_
                          go_frame
                          refine wpAnyH_skipD (some 87) (i := 7) rfl rfl (by kernel_rfl) (by kernel_rfl) (by kernel_rfl) (fun _ _ _ h => h) (by rfl) (by assumption) ?_
                          go_frame
                          refine wpAnyH_skipD (some 88) (i := 8) rfl rfl (by kernel_rfl) (by kernel_rfl) (by kernel_rfl) (fun _ _ _ h => h) (by rfl) (by assumption) ?_
                          go_frame
                          refine wpAnyH_skipD (some 89) (i := 9) rfl rfl (by kernel_rfl) (by kernel_rfl) (by kernel_rfl) (fun _ _ _ h => h) (by rfl) (by assumption) ?_
                          go_frame
                          refine wpAnyH_skipD (some 90) (i := 10) rfl rfl (by kernel_rfl) (by kernel_rfl) (by kernel_rfl) (fun _ _ _ h => h) (by rfl) (by assumption) ?_
                          go_frame
                          refine wpAnyH_takeD (some 91) (i := 11) (v := ?vh6_11) rfl rfl (by kernel_rfl) (by kernel_rfl) (by kernel_rfl) (fun _ _ _ h => h) (by rfl) ?hh6_11 (by assumption) ?_
                          case hh6_11 => (intro wq hSw; (try dsimp only at hSw); go_simp; (try (with_reducible rfl)))
                          go_frame
                          refine wpAnyH_takeD (some 79) (i := 12) (v := ?vh6_12) rfl rfl (by kernel_rfl) (by kernel_rfl) (by kernel_rfl) (fun _ _ _ h => h) (by rfl) ?hh6_12 (by assumption) ?_
                          case hh6_12 => (intro wq hSw; (try dsimp only at hSw); go_simp; (try (with_reducible rfl)))
                          go_frame
                          refine wpAnyH_done (by kernel_rfl) ?_ _
                          refine NoPanic.normal ?_
                          go_wp2_with fail
                          go_meet
                          have e1 : L = [] := List.eq_nil_of_length_eq_zero HP.out
                          exact ⟨by rw [HB1.out, e1]; rfl, own_drew HOwn.out, hbj.drew⟩
                        · have dp : decide ((p : Int) = 0) = false := by simp; omega
                          have dp2 : ((p : Int) == 0) = false := by simp; omega
                          have dp3 : decide (p = 0) = false := by simp; omega
                          have dp4 : (p == 0) = false := by simp; omega
                          obtain ⟨x, L', hL⟩ := cons_of_len HP.out hp0
                          have HL := Lib.hid hL
                          clear hL
                          rw [HL.out] at HR1
                          obtain ⟨b1, o1, rfl⟩ := HR1.out.vtFirst
                          have ip : 0 < p := by omega
                          have HRows : Hid (∀ W, Below W0.heap.size W0 W → rowAt W b1 o1 22 = some x.cells ∧ rowAt W b2 o2 22 = some y.cells) := fun W hW => ⟨(HR1.out.below hW).vt0, (HR2.out.below hW).vt0⟩
                          have HLe : Hid (∀ W, Calls Try.prog 64 #[y.val, x.val] W (BoolPost W (lessV y x))) := fun W => rvless_any y x W
                          refine wp_region_noPanic ?_
                          refine wp_region_held_drew (S := fun w' => rowAt w' b1 o1 22 = some x.cells ∧ rowAt w' b2 o2 22 = some y.cells) (by kernel_rfl) (HRows.out _ hbj.drew) (fun hHeld => ?_)
                          refine wpAnyH_takeD (some 80) (i := 0) (v := ?vh7_0) rfl rfl (by kernel_rfl) (by kernel_rfl) (by kernel_rfl) (fun _ _ _ h => h) (by rfl) ?hh7_0 (by assumption) ?_
                          case hh7_0 => (intro wq hSw; (try dsimp only at hSw); go_simp; (try (with_reducible rfl)))
                          go_frame
                          refine wpAnyH_takeD (some 81) (i := 1) (v := ?vh7_1) rfl rfl (by kernel_rfl) (by kernel_rfl) (by kernel_rfl) (fun _ _ _ h => h) (by rfl) ?hh7_1 (by assumption) ?_
                          case hh7_1 => (intro wq hSw; (try dsimp only at hSw); go_simp; (try (with_reducible rfl)))
                          go_frame
                          refine wpAnyH_takeD (some 82) (i := 2) (v := ?vh7_2) rfl rfl (by kernel_rfl) (by kernel_rfl) (by kernel_rfl) (fun _ _ _ h => h) (by rfl) ?hh7_2 (by assumption) ?_
                          case hh7_2 => (intro wq hSw; (try dsimp only at hSw); go_simp; (try (with_reducible rfl)))
                          go_frame
                          refine wpAnyH_takeD (some 83) (i := 3) (v := ?vh7_3) rfl rfl (by kernel_rfl) (by kernel_rfl) (by kernel_rfl) (fun _ _ _ h => h) (by rfl) ?hh7_3 (by assumption) ?_
                          case hh7_3 => (intro wq hSw; (try dsimp only at hSw); go_simp; (try (with_reducible rfl)))
                          go_frame
                          refine wpAnyH_takeD (some 84) (i := 4) (v := ?vh7_4) rfl rfl (by kernel_rfl) (by kernel_rfl) (by kernel_rfl) (fun _ _ _ h => h) (by rfl) ?hh7_4 (by assumption) ?_
                          case hh7_4 => (intro wq hSw; (try dsimp only at hSw); go_simp; (try (with_reducible rfl)))
                          go_frame
                          refine wpAnyH_takeD (some 85) (i := 5) (v := ?vh7_5) rfl rfl (by kernel_rfl) (by kernel_rfl) (by kernel_rfl) (fun _ _ _ h => h) (by rfl) ?hh7_5 (by assumption) ?_
                          case hh7_5 => (intro wq hSw; (try dsimp only at hSw); go_simp; (try (with_reducible rfl)))
                          go_frame
                          refine wpAnyH_takeD (some 86) (i := 6) (v := ?vh7_6) rfl rfl (by kernel_rfl) (by kernel_rfl) (by kernel_rfl) (fun _ _ _ h => h) (by rfl) ?hh7_6 (by assumption) ?_
                          case hh7_6 => (intro wq hSw; (try dsimp only at hSw); go_simp; (try (with_reducible rfl)))
                          go_frame
                          refine wpAnyH_takeD (some 87) (i := 7) (v := ?vh7_7) rfl rfl (by kernel_rfl) (by kernel_rfl) (by kernel_rfl) (fun _ _ _ h => h) (by rfl) ?hh7_7 (by assumption) ?_
                          case hh7_7 => (intro wq hSw; (try dsimp only at hSw); go_simp; (try (with_reducible rfl)))
                          go_frame
                          refine wpAnyH_takeD (some 88) (i := 8) (v := ?vh7_8) rfl rfl (by kernel_rfl) (by kernel_rfl) (by kernel_rfl) (fun _ _ _ h => h) (by rfl) ?hh7_8 (by assumption) ?_
                          case hh7_8 => (intro wq hSw; (try dsimp only at hSw); go_simp; (try (with_reducible rfl)))
                          go_frame
                          refine wpAnyH_takeD (some 89) (i := 9) (v := ?vh7_9) rfl rfl (by kernel_rfl) (by kernel_rfl) (by kernel_rfl) (fun _ _ _ h => h) (by rfl) ?hh7_9 (by assumption) ?_
                          case hh7_9 => (intro wq hSw; (try dsimp only at hSw); go_simp; (try (with_reducible rfl)))
                          go_frame
                          refine wpAnyH_ready (rs := [10]) (by kernel_rfl) (by simp) ?_
                          refine AllReadyH.cons rfl (fun K hK => ?_) AllReadyH.nil
                          go_simp
                          refine (HLe.out _).mono ?_; rintro en w2 ⟨rfl, hb2⟩; have hbj2 := hbj.drew.trans (hb2.mono hbj.size); have HOwn2 := Lib.hid (own_below (own_drew HOwn.out) hb2 (Nat.le_refl _))
                          go_wp2_with fail
                          refine hK.out _ _ (HRows.out _ hbj2) (fun hHeld => ?_)
                          clear hK K
                          try go_frame
                          refine wpAnyH_takeD (some 91) (i := 11) (v := ?vh7_11) rfl rfl (by kernel_rfl) (by kernel_rfl) (by kernel_rfl) (fun _ _ _ h => h) (by rfl) ?hh7_11 (by assumption) ?_
                          case hh7_11 => (intro wq hSw; (try dsimp only at hSw); go_simp; (try (with_reducible rfl)))
                          go_frame
                          refine wpAnyH_takeD (some 79) (i := 12) (v := ?vh7_12) rfl rfl (by kernel_rfl) (by kernel_rfl) (by kernel_rfl) (fun _ _ _ h => h) (by rfl) ?hh7_12 (by assumption) ?_
                          case hh7_12 => (intro wq hSw; (try dsimp only at hSw); go_simp; (try (with_reducible rfl)))
                          go_frame
                          refine wpAnyH_done (by kernel_rfl) ?_ _
                          refine NoPanic.normal ?_
                          go_wp2_with fail
                          go_meet
                          exact ⟨by rw [HB1.out, HL.out, HM.out]; rfl, HOwn2.out, hbj2⟩
                      case rest =>
                        clear hbj HOwn
                        obtain ⟨rfl, hown, hbj⟩ := hcut
                        have HOwn := Lib.hid hown
                        clear hown
                        cases r2 with
                        | true =>
                          have HAL' : Hid (MInv l (O ++ [y]) L M') := by
                            have h := HAL.out
                            unfold Hid
                            rw [HM.out] at h
                            cases hL : L with
                            | nil => rw [hL] at h; exact h.swap.takeA0.swap
                            | cons x L' =>
                              have h2 := HB1.out
                              rw [hL, HM.out] at h2
                              have h4 : lessV y x = true := h2.symm
                              rw [hL] at h
                              exact (h.swap.takeA h4).swap
                          clear HA1 HB1
                          rw [HM.out] at HQ
                          obtain ⟨q', rfl⟩ : ∃ q', q = q' + 1 := ⟨M'.length, HQ.out.symm⟩
                          have HQ' : Hid (M'.length = q') := Nat.succ.inj HQ.out
                          have iq0 : (0 : Int) < (q' : Int) + 1 := by omega
                          have iq1 : (1 : Int) ≤ (q' : Int) + 1 := by omega
                          have ic2 : (1 : Int) ≤ (c2 : Int) := by omega
                          have hqc : ((q' : Int) + 1) ≤ (c2 : Int) := by omega
                          have hrow : rowAt wc b2 o2 22 = some y.cells := (HR2.out.below hbj).vt0
                          go_wp2_with ((first
                            | (refine wpList_build1 rfl 51 41 (.tmp 95) rfl y.cells rfl Try.underlying51 (by kernel_rfl) (by decide) (by decide) ?_)
                            | (at_builtin; refine wpList_app rfl (.tmp 92) (.tmp 96) _ rfl W0.heap.size 41 (.agg zeroV.cells) 22 64 Try.underlying51 info_vote rfl (by decide) u7 O.length (O.flatMap vtc) rfl ?r0 (wc.heap.size + 1) (some ⟨wc.heap.size, 0, none⟩) 1 1 (vtc y) rfl ?r1 ?r2 ?r3 ?r4 ?r5 ?r6 ?_)))
                          case r0 => exact HOwn.out.alloc _
                          case r1 => rfl
                          case r2 => exact Rd.mk (by omega) (fun j u hu => by rw [Nat.zero_add, (Blk.new wc _ _).cell]; simpa using hu)
                          case r3 => exact fun u hu => one_vt y hu
                          case r4 => omega
                          case r5 => unfold maxLen; omega
                          case r6 => have := hbj.size; simp; omega
                          intro v3 w3 hown3 hg3 hat3
                          have hbj3 : Below W0.heap.size W0 w3 := below_own (hbj.alloc hbj.size _) (HOwn.out.alloc _) hg3
                          have HOwn3 := Lib.hid hown3
                          clear hown3 hg3 hat3 hrow
                          go_wp2
                          go_roundw
                          case rel =>
                            refine ⟨L, M', O ++ [y], ⟨A1, c1, by rw [HP.out], HR1.out, by rw [HP.out]; exact hc1, hm1⟩, ?_, ?_, hbj3, HAL'.out, by rw [List.length_append, HP.out, HQ'.out]; simp; omega⟩
                            · have h := VlOk.tail HR2.out (c := c2) (by rw [HQ'.out]; exact hc2) hm2
                              rw [HQ'.out] at h
                              simpa using h
                            · have h := HOwn3.out
                              rw [List.length_append, List.flatMap_append]
                              simpa using h
                          case measure => simp [lenOfV]
                        | false =>
                          have hp0 : ¬ p = 0 := by
                            intro h
                            have e1 : L = [] := List.eq_nil_of_length_eq_zero (HP.out.trans h)
                            have := HB1.out
                            rw [e1] at this
                            cases this
                          obtain ⟨x, L', hL⟩ := cons_of_len HP.out hp0
                          have HL := Lib.hid hL
                          clear hL
                          have hxy : x = y := by
                            have h1 := HA1.out
                            have h2 := HB1.out
                            rw [HL.out, HM.out] at h1 h2
                            exact lessV_total h1.symm h2.symm
                          have HAL' : Hid (MInv l O L' M) := by
                            have h := HAL.out
                            unfold Hid
                            rw [HM.out, HL.out, hxy] at h
                            rw [HM.out]
                            exact h.drop
                          clear HA1 HB1
                          rw [HL.out] at HR1 HP
                          obtain ⟨p', rfl⟩ : ∃ p', p = p' + 1 := ⟨L'.length, HP.out.symm⟩
                          have HP' : Hid (L'.length = p') := Nat.succ.inj HP.out
                          obtain ⟨b1, o1, rfl⟩ := HR1.out.vtFirst
                          have ip1 : (1 : Int) ≤ (p' : Int) + 1 := by omega
                          have ic1 : (1 : Int) ≤ (c1 : Int) := by omega
                          have hpc : ((p' : Int) + 1) ≤ (c1 : Int) := by omega
                          clear hxy
                          go_wp2
                          go_roundw
                          case rel =>
                            refine ⟨L', M, O, ?_, ⟨_, c2, by rw [HQ.out], by rw [HM.out]; exact HR2.out, by rw [HQ.out]; exact hc2, hm2⟩, HOwn.out, hbj, HAL'.out, by rw [HP'.out, HQ.out]; omega⟩
                            have h := VlOk.tail HR1.out (c := c1) (by rw [HP'.out]; exact hc1) hm1
                            rw [HP'.out] at h
                            simpa using h
                          case measure => simp [lenOfV]

/-- The reference's Sorted, for every list. -/
theorem rsorted_any : ∀ (m : Nat) (A : Option Addr) (n c : Nat) (l : List Vt) (w : World), n ≤ m → l.length = n → Rd w w.heap.size A (l.flatMap vtc) → n ≤ 1000000 → n ≤ c → c ≤ maxLen → Calls Try.prog 80 #[.slice A n c] w (SrtPost w l) := by
  intro m
  induction m with
  | zero =>
    intro A n c l w hm hn hr hs hc hcm
    exact rsorted_step A n c l w hn hr hs hc hcm (fun _ n' _ _ _ h => by omega)
  | succ m ih =>
    intro A n c l w hm hn hr hs hc hcm
    exact rsorted_step A n c l w hn hr hs hc hcm (fun A' n' c' l' w' h h1 h2 h3 h4 => ih A' n' c' l' w' (by omega) h1 h2 (by omega) h3 h4)
end Go.Proofs.Ythmecidpjlaonaa
namespace Go.Proofs.Ythmecidpjlaonaa
open Go.RowKit

theorem strictT_ext {c d : List Vt} (h : StrictT c) (h' : StrictT d) (hm : ∀ x, x ∈ c ↔ x ∈ d) : c = d := by
  have e := strict_ext (c.map pv) (d.map pv) ((strictT_iff c).1 h) ((strictT_iff d).1 h') (fun x => by
    rw [List.mem_map, List.mem_map]
    constructor
    · rintro ⟨v, hv, rfl⟩; exact ⟨v, (hm v).1 hv, rfl⟩
    · rintro ⟨v, hv, rfl⟩; exact ⟨v, (hm v).2 hv, rfl⟩)
  have e2 := congrArg (List.map (fun x : VS => x.1)) e
  rw [List.map_map, List.map_map] at e2
  have e3 : (fun x : VS => x.1) ∘ pv = id := rfl
  rwa [e3, List.map_id, List.map_id] at e2
theorem votes_strict (l : List VS) : StrictT ((canF l).map (·.1)) := by
  unfold StrictT
  rw [List.pairwise_map]
  exact (canF_is l).asc
theorem votes_mem (l : List VS) (x : Vt) : x ∈ (canF l).map (·.1) ↔ x ∈ l.map (·.1) := by
  rw [List.mem_map, List.mem_map]
  constructor
  · rintro ⟨y, hy, rfl⟩; exact ⟨y, (canF_is l).sub y hy, rfl⟩
  · rintro ⟨y, hy, rfl⟩
    obtain ⟨z, hz, e, _⟩ := (canF_is l).dom y hy
    exact ⟨z, hz, e⟩
theorem votes_only {D : List Vt} {l : List Sg} (hs : StrictT D) (hm : ∀ x, x ∈ D ↔ x ∈ l.map (·.vote)) : D = (canF (l.map Sg.vs)).map (·.1) :=
  strictT_ext hs (votes_strict _) (fun x => by
    rw [hm x, votes_mem, List.map_map]
    exact Iff.rfl)
set_option maxRecDepth 100000 in
theorem rvotes_any (A : Option Addr) (n c : Nat) (l : List Sg) (w : World) (hn : l.length = n) (hr : Rd w w.heap.size A (l.flatMap sgc)) (hsmall : n ≤ 1000000) :
    Calls Try.prog 43 #[.slice A n c] w (VtPost w ((canF (l.map Sg.vs)).map (·.1))) := by
  obtain ⟨E, hE⟩ : ∃ E, E = (canF (l.map Sg.vs)).map (·.1) := ⟨_, rfl⟩
  rw [← hE]
  have hs : ∀ v W, Below w.heap.size w W → W.ownsRow w.heap.size 41 22 v (l.map (·.vote)).length ((l.map (·.vote)).flatMap vtc) → Calls Try.prog 80 #[v] W (VtPost W E) := by
    intro v W hb hown
    obtain ⟨A', c', rfl, h1, h2, h3⟩ := own_vslice hown rfl
    have hl : (l.map (·.vote)).length ≤ 1000000 := by rw [List.length_map, hn]; exact hsmall
    generalize hL : l.map (·.vote) = L at *
    have h := rsorted_any L.length A' L.length c' L W (Nat.le_refl _) rfl h1 hl h2 h3
    refine h.mono ?_
    rintro e w' ⟨D, hD, hs, hm, _⟩
    subst hL
    have e2 : D = E := by rw [hE]; exact votes_only hs hm
    rw [← e2]
    exact hD
  exact rvotes_core A n c l w hn hr hsmall E hs
end Go.Proofs.Ythmecidpjlaonaa
