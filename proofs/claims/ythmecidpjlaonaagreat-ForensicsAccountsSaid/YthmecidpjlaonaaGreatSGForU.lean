/-
  forensics.joined returns the two lists as one, in new memory. Condition: the lists lie in memory below the call.
  forensics' Union, Extract, Proof and Against return what signed.Canonical, evidence.Find, checker.Build and the size of the guilty members give for the two lists as one. Condition: the lists lie in memory below the call.
-/
import Derived.Test.YthmecidpjlaonaaGreatSGPFind
import Derived.Test.YthmecidpjlaonaaGreatSGFoundP
import Derived.Test.YthmecidpjlaonaaGreatSBuild
import Derived.IntWalk
import Derived.Test.YthmecidpjlaonaaGreatSGCnt
import Derived.Test.YthmecidpjlaonaaGreatSGPairs9
namespace Go.Proofs.YthmecidpjlaonaaGreat
open Go.RowKit
attribute [local go_sem ↓] Go.wp_at_zero Go.wp_at_succ loadNm loadVt loadSg loadEv
attribute [local go_sem] runNm runVt runSg runEv pickRow_some rowAt_drew rowAt_drewN
/-- A list in new memory. -/
def JoinPost (w : World) (l : List Sg) (e : Ending) (w' : World) : Prop :=
  ∃ A c, e = .returned (.slice A l.length c) ∧ w'.ownsRow w.heap.size 34 23 (.slice A l.length c) l.length (l.flatMap sgc) ∧ Below w.heap.size w w'
/-- Where joined stands. -/
def JoinRel (a b : List Sg) (w : World) (v iv : Value) (wr : World) : Prop :=
  ∃ (i : Nat) (l : List Sg), iv = .int .i64 (i : Int) ∧ i ≤ 2 ∧ l = (if i = 0 then [] else if i = 1 then a else a ++ b) ∧ wr.ownsRow w.heap.size 34 23 v l.length (l.flatMap sgc) ∧ Below w.heap.size w wr

set_option maxRecDepth 100000 in
set_option maxHeartbeats 4000000 in
theorem joined_any (A C : Option Addr) (p na ca nc cc : Nat) (a b : List Sg) (w : World) (hna : a.length = na) (hnc : b.length = nc) (hA : Rd w w.heap.size A (a.flatMap sgc)) (hC : Rd w w.heap.size C (b.flatMap sgc)) (hsm : na + nc ≤ 1000000)
    (hp : p < w.heap.size) (h0 : w.cell? ⟨p, 0, none⟩ = some (.slice A na ca)) (h1 : w.cell? ⟨p, 1, none⟩ = some (.slice C nc cc)) :
    Calls Tryz.prog 63 #[.slice (some ⟨p, 0, none⟩) 2 2] w (JoinPost w (a ++ b)) := by
  have HNa := Lib.hid hna
  have HNc := Lib.hid hnc
  have HC0 : Hid (∀ V, Below w.heap.size w V → V.cell? ⟨p, 0, none⟩ = some (.slice A na ca) ∧ V.cell? ⟨p, 1, none⟩ = some (.slice C nc cc) ∧ Rd V V.heap.size A (a.flatMap sgc) ∧ Rd V V.heap.size C (b.flatMap sgc)) := fun V hV => ⟨(hV.cell (by exact hp)).trans h0, (hV.cell (by exact hp)).trans h1, (hA.below hV).more hV.size, (hC.below hV).more hV.size⟩
  clear hna hnc hA hC hp h0 h1
  go_enter Tryz.func63, Tryz.ntmps63
  go_wp2
  go_loopw [3, 8] (fun v iv wr => JoinRel a b w v iv wr) (fun _ iv _ => 2 - (intOf iv).toNat)
  case atStart => exact ⟨0, [], rfl, by omega, rfl, ⟨rfl, .inl ⟨rfl, rfl⟩⟩, Below.refl _ _⟩
  case round =>
    obtain ⟨i, l, rfl, hin, hl, hown, hb⟩ := hrel
    obtain ⟨c0, c1, hra, hrc⟩ := HC0.out _ hb
    rcases (by omega : i = 0 ∨ i = 1 ∨ i = 2) with rfl | rfl | rfl
    · replace hl : l = [] := hl
      subst hl
      go_wp2_with (at_builtin; refine wpList_app rfl (.tmp 12) (.tmp 13) _ rfl w.heap.size 34 (.agg zeroSc) 23 88 Tryz.underlying23 info_signed rfl (by decide) _ 0 [] rfl hown wr.heap.size A na ca (a.flatMap sgc) rfl (by rw [flat_length sgc 23 a (sgc_len a), HNa.out]) hra (fun u hu => by obtain ⟨s, _, hs⟩ := List.mem_flatMap.1 hu; exact s.one u hs) (by omega) (by unfold maxLen; omega) hb.size ?_; intro v2 w2 hown2 hg2 hat2)
      go_roundw
      case rel => exact ⟨1, a, rfl, by omega, rfl, by rw [HNa.out]; simpa using hown2, below_own hb hown hg2⟩
      case measure => simp [intOf]
    · replace hl : l = a := hl
      subst hl
      rw [HNa.out] at hown
      go_wp2_with (at_builtin; refine wpList_app rfl (.tmp 12) (.tmp 13) _ rfl w.heap.size 34 (.agg zeroSc) 23 88 Tryz.underlying23 info_signed rfl (by decide) _ na (l.flatMap sgc) rfl hown wr.heap.size C nc cc (b.flatMap sgc) rfl (by rw [flat_length sgc 23 b (sgc_len b), HNc.out]) hrc (fun u hu => by obtain ⟨s, _, hs⟩ := List.mem_flatMap.1 hu; exact s.one u hs) (by omega) (by unfold maxLen; omega) hb.size ?_; intro v2 w2 hown2 hg2 hat2)
      go_roundw
      case rel => exact ⟨2, l ++ b, rfl, by omega, rfl, by rw [List.length_append, HNa.out, HNc.out, List.flatMap_append]; exact hown2, below_own hb hown hg2⟩
      case measure => simp [intOf]
    · replace hl : l = a ++ b := hl
      subst hl
      obtain ⟨A', c', hv⟩ := own_form hown
      subst hv
      go_wp2
      go_ret
      exact ⟨A', c', rfl, hown, hb⟩
end Go.Proofs.YthmecidpjlaonaaGreat
namespace Go.Proofs.YthmecidpjlaonaaGreat
open Go.RowKit
attribute [local go_sem ↓] Go.wp_at_zero Go.wp_at_succ loadNm loadVt loadSg loadEv
attribute [local go_sem] runNm runVt runSg runEv pickRow_some rowAt_drew rowAt_drewN
/-- The bytes of the proof with these pairs. -/
def pbS (F : List ES) : List UInt8 := UInt8.ofNat F.length :: F.flatMap fun e => (encB e.1.1 ++ e.1.2) ++ (encB e.2.1 ++ e.2.2)
theorem buildB_vs (E : List Ev) : buildB E E.length = pbS (E.map Ev.vs) := by
  unfold buildB pbS
  rw [List.take_length, List.length_map, List.flatMap_map]
  rfl
/-- The proof with these pairs, or none. -/
def PrfPost (w : World) (F : List ES) (e : Ending) (w' : World) : Prop :=
  (F ≠ [] ∧ RowTrue w 5 1 (1 + 786 * F.length) ((pbS F).map B) e w') ∨ (F = [] ∧ RowFalse w e w')
theorem BuildPost.prf {w : World} {keys : List Nm} {l : List VS} {E : List Ev} {e : Ending} {w' : World} (h : BuildPost w E e w') (hE : E.map Ev.vs = findS (cvS keys l) 10) : PrfPost w (findS (cvS keys l) 10) e w' := by
  rcases h with ⟨h1, h2⟩ | ⟨h1, h2⟩
  · refine .inl ⟨fun h0 => h1.1 (by rw [h0] at hE; simpa using hE), ?_⟩
    rw [← hE, ← buildB_vs, List.length_map]
    exact h2
  · refine .inr ⟨?_, h2⟩
    by_cases h0 : E = []
    · rw [← hE, h0]; rfl
    · exact absurd (found_build hE h0) h1
theorem CanPost.mono2 {w w1 w2 : World} {l : List VS} {e : Ending} (hb : Below w.heap.size w w1) (h : CanPost w1 l e w2) : CanPost w l e w2 := by
  obtain ⟨L, v, rfl, h1, h2, h3, h4⟩ := h
  exact ⟨L, v, rfl, hb.trans (h1.mono hb.size), own_base h2 hb.size, h3, h4⟩
theorem FoundPost.mono2 {w w1 w2 : World} {c : List ES} {e : Ending} (hb : Below w.heap.size w w1) (h : FoundPost w1 c e w2) : FoundPost w c e w2 := by
  obtain ⟨E, v, rfl, h1, h2, h3, h4⟩ := h
  exact ⟨E, v, rfl, hb.trans (h1.mono hb.size), own_base h2 hb.size, h3, h4⟩
theorem PrfPost.mono2 {w w1 w2 : World} {F : List ES} {e : Ending} (hb : Below w.heap.size w w1) (h : PrfPost w1 F e w2) : PrfPost w F e w2 := by
  rcases h with ⟨h0, A, c, rfl, h1, h2⟩ | ⟨h0, rfl, h2⟩
  · exact .inl ⟨h0, A, c, rfl, own_base h1 hb.size, hb.trans (h2.mono hb.size)⟩
  · exact .inr ⟨h0, rfl, hb.trans (h2.mono hb.size)⟩

/-- The block with the two lists, and what joined makes of it. -/
theorem join_two (A C : Option Addr) (na ca nc cc : Nat) (a b : List Sg) (w : World) (hna : a.length = na) (hnc : b.length = nc) (hA : Rd w w.heap.size A (a.flatMap sgc)) (hC : Rd w w.heap.size C (b.flatMap sgc)) (hsm : na + nc ≤ 1000000)
    (hoa : SgsOk w w.heap.size a) (hob : SgsOk w w.heap.size b) :
    Calls Tryz.prog 63 #[.slice (some ⟨w.heap.size, 0, none⟩) 2 2] (w.alloc (.cells #[.slice A na ca, .slice C nc cc] 23)) fun e w' => ∃ A' c', e = .returned (.slice A' (a ++ b).length c') ∧ Rd w' w'.heap.size A' ((a ++ b).flatMap sgc) ∧ SgsOk w' w'.heap.size (a ++ b) ∧ Below w.heap.size w w' := by
  have hb1 : Below w.heap.size w (w.alloc (.cells #[.slice A na ca, .slice C nc cc] 23)) := (Below.refl _ _).alloc (Nat.le_refl _) _
  have hB := Blk.new w 23 #[.slice A na ca, .slice C nc cc]
  refine (joined_any A C w.heap.size na ca nc cc a b _ hna hnc ((hA.below hb1).more hb1.size) ((hC.below hb1).more hb1.size) hsm (by simp) (hB.cell 0) (hB.cell 1)).mono ?_
  rintro e w' ⟨A', c', rfl, hown, hb⟩
  have hbw := hb1.trans (hb.mono hb1.size)
  refine ⟨A', c', rfl, Rd.of_own hown, fun s hs => ?_, hbw⟩
  rcases List.mem_append.1 hs with h | h
  · exact ⟨((hoa s h).1.below hbw).more hbw.size, (hoa s h).2⟩
  · exact ⟨((hob s h).1.below hbw).more hbw.size, (hob s h).2⟩

set_option maxRecDepth 100000 in
theorem union_any (A C : Option Addr) (na ca nc cc : Nat) (a b : List Sg) (w : World) (hna : a.length = na) (hnc : b.length = nc) (hA : Rd w w.heap.size A (a.flatMap sgc)) (hC : Rd w w.heap.size C (b.flatMap sgc)) (hsm : na + nc ≤ 1000000)
    (hoa : SgsOk w w.heap.size a) (hob : SgsOk w w.heap.size b) : Calls Tryz.prog 26 #[.slice A na ca, .slice C nc cc] w (CanPost w ((a ++ b).map Sg.vs)) := by
  have HJ := Lib.hid (join_two A C na ca nc cc a b w hna hnc hA hC hsm hoa hob)
  have HL : Hid ((a ++ b).length ≤ 1000000) := by unfold Hid; rw [List.length_append]; omega
  generalize a ++ b = l at *
  obtain ⟨n, hn⟩ : ∃ n, n = l.length := ⟨_, rfl⟩
  rw [← hn] at HJ HL
  have HN := Lib.hid hn
  clear hna hnc hA hC hsm hoa hob hn
  go_enter Tryz.func26, Tryz.ntmps26
  go_wp2_with (first
    | (go_at_call 63; refine HJ.out.mono ?_; rintro en w2 ⟨A', c', rfl, hr, hok, hb2⟩; have HP := Lib.hid (pcan_any A' n c' l w2 HN.out.symm hr hok HL.out); clear hr hok)
    | (go_at_call 43; refine HP.out.mono ?_; rintro en w3 h3; have h4 := h3.mono2 hb2; obtain ⟨L, v, rfl, h5, h6, h7, h8⟩ := h4))
  go_ret
  exact ⟨L, v, rfl, h5, h6, h7, h8⟩
set_option maxRecDepth 100000 in
theorem extract_any (K A C : Option Addr) (nk ck na ca nc cc : Nat) (keys : List Nm) (a b : List Sg) (w : World) (hnk : keys.length = nk) (hK : Rd w w.heap.size K (keys.flatMap nmc)) (hna : a.length = na) (hnc : b.length = nc) (hA : Rd w w.heap.size A (a.flatMap sgc)) (hC : Rd w w.heap.size C (b.flatMap sgc)) (hsm : na + nc ≤ 1000000)
    (hoa : SgsOk w w.heap.size a) (hob : SgsOk w w.heap.size b) : Calls Tryz.prog 29 #[.slice K nk ck, .slice A na ca, .slice C nc cc] w (FoundPost w (findS (cvS keys ((a ++ b).map Sg.vs)) 10)) := by
  have HJ := Lib.hid (join_two A C na ca nc cc a b w hna hnc hA hC hsm hoa hob)
  have HL : Hid ((a ++ b).length ≤ 1000000) := by unfold Hid; rw [List.length_append]; omega
  generalize a ++ b = l at *
  obtain ⟨n, hn⟩ : ∃ n, n = l.length := ⟨_, rfl⟩
  rw [← hn] at HJ HL
  have HN := Lib.hid hn
  have HK := Lib.hid hK
  have HNk := Lib.hid hnk
  clear hna hnc hA hC hsm hoa hob hn hK hnk
  go_enter Tryz.func29, Tryz.ntmps29
  go_wp2_with (first
    | (go_at_call 63; refine HJ.out.mono ?_; rintro en w2 ⟨A', c', rfl, hr, hok, hb2⟩; have HP := Lib.hid (pfind_any K A' nk ck n c' keys l w2 HNk.out HN.out.symm ((HK.out.below hb2).more hb2.size) hr hok HL.out); clear hr hok)
    | (go_at_call 13; refine HP.out.mono ?_; rintro en w3 h3; have h4 := h3.mono2 hb2; obtain ⟨L, v, rfl, h5, h6, h7, h8⟩ := h4))
  go_ret
  exact ⟨L, v, rfl, h5, h6, h7, h8⟩
set_option maxRecDepth 100000 in
theorem proof_any (K A C : Option Addr) (nk ck na ca nc cc : Nat) (keys : List Nm) (a b : List Sg) (w : World) (hnk : keys.length = nk) (hK : Rd w w.heap.size K (keys.flatMap nmc)) (hna : a.length = na) (hnc : b.length = nc) (hA : Rd w w.heap.size A (a.flatMap sgc)) (hC : Rd w w.heap.size C (b.flatMap sgc)) (hsm : na + nc ≤ 1000000)
    (hoa : SgsOk w w.heap.size a) (hob : SgsOk w w.heap.size b) : Calls Tryz.prog 31 #[.slice K nk ck, .slice A na ca, .slice C nc cc] w (PrfPost w (findS (cvS keys ((a ++ b).map Sg.vs)) 10)) := by
  have HX := Lib.hid (extract_any K A C nk ck na ca nc cc keys a b w hnk hK hna hnc hA hC hsm hoa hob)
  have HB : Hid (∀ V e w', Below w.heap.size w V → PrfPost V (findS (cvS keys ((a ++ b).map Sg.vs)) 10) e w' → PrfPost w (findS (cvS keys ((a ++ b).map Sg.vs)) 10) e w') := fun V e w' h1 h2 => h2.mono2 h1
  have HC : Hid (∀ V v (E : List Ev), V.ownsRow w.heap.size 51 46 v E.length (E.flatMap evc) → EvsCap V E → E.map Ev.vs = findS (cvS keys ((a ++ b).map Sg.vs)) 10 → ∃ A c, v = .slice A E.length c ∧ Calls Tryz.prog 64 #[.slice A E.length c] V (PrfPost V (findS (cvS keys ((a ++ b).map Sg.vs)) 10))) := fun V v E h1 h2 h3 => by
    obtain ⟨A, c, rfl, hr, _, _⟩ := own_evs h1 rfl
    have hl := found_len h3
    exact ⟨A, c, rfl, (build_any A c E V hr (fun x hx => ⟨(h2 x hx).1.1, (h2 x hx).2.1⟩) (by omega)).mono fun e w' h => h.prf h3⟩
  generalize findS (cvS keys ((a ++ b).map Sg.vs)) 10 = F at *
  clear hna hnc hA hC hsm hoa hob hK hnk
  go_enter Tryz.func31, Tryz.ntmps31
  go_wp2_with (first
    | (go_at_call 29; refine HX.out.mono ?_; rintro en w2 ⟨E, v, rfl, hb2, hown, hok, he⟩; obtain ⟨A', c', rfl, hcall⟩ := HC.out w2 v E hown hok he; have HP := Lib.hid hcall; clear hown hok he hcall)
    | (go_at_call 64; refine HP.out.mono ?_; rintro en w3 h3; have h4 := HB.out _ _ _ hb2 h3; clear h3; rcases h4 with ⟨h5, A3, c3, rfl, h6, h7⟩ | ⟨h5, rfl, h6⟩))
  · go_wp2
    go_ret2
    exact .inl ⟨h5, A3, c3, rfl, h6, h7⟩
  · go_wp2
    go_ret2
    exact .inr ⟨h5, rfl, h6⟩
theorem and_ex (m : Int) (g : Nat) (hg : g < 1024) : ∃ x : Nat, x < 1024 ∧ bits .and .i64 m (g : Int) = (x : Int) := by
  refine ⟨((BitVec.ofInt 64 m) &&& (BitVec.ofInt 64 (g : Int))).toNat, ?_, ?_⟩
  · rw [BitVec.toNat_and]
    refine Nat.lt_of_le_of_lt Nat.and_le_right ?_
    rw [BitVec.ofInt_natCast, BitVec.toNat_ofNat]
    omega
  · show IntKind.i64.wrap (((BitVec.ofInt 64 m) &&& (BitVec.ofInt 64 (g : Int))).toNat : Int) = _
    have h : ((BitVec.ofInt 64 m) &&& (BitVec.ofInt 64 (g : Int))).toNat < 1024 := by
      rw [BitVec.toNat_and]
      refine Nat.lt_of_le_of_lt Nat.and_le_right ?_
      rw [BitVec.ofInt_natCast, BitVec.toNat_ofNat]
      omega
    rw [IntKind.wrap_i64]
    omega
set_option maxRecDepth 100000 in
theorem against_any (K A C : Option Addr) (nk ck na ca nc cc : Nat) (m : Int) (x : Nat) (keys : List Nm) (a b : List Sg) (w : World) (hnk : keys.length = nk) (hK : Rd w w.heap.size K (keys.flatMap nmc)) (hna : a.length = na) (hnc : b.length = nc) (hA : Rd w w.heap.size A (a.flatMap sgc)) (hC : Rd w w.heap.size C (b.flatMap sgc)) (hsm : na + nc ≤ 1000000)
    (hoa : SgsOk w w.heap.size a) (hob : SgsOk w w.heap.size b) (hx : x < 1024) (hm : bits .and .i64 m ((gltF keys ((a ++ b).map Sg.vs) : Nat) : Int) = (x : Int)) :
    Calls Tryz.prog 33 #[.slice K nk ck, .int .i64 m, .slice A na ca, .slice C nc cc] w (IntPost w ((popF x 10 : Nat) : Int)) := by
  have HJ := Lib.hid (join_two A C na ca nc cc a b w hna hnc hA hC hsm hoa hob)
  have HL : Hid ((a ++ b).length ≤ 1000000) := by unfold Hid; rw [List.length_append]; omega
  have HS := Lib.hid (fun V => csize_any x V hx)
  generalize popF x 10 = r at *
  generalize a ++ b = l at *
  obtain ⟨g, hg⟩ : ∃ g, g = gltF keys (l.map Sg.vs) := ⟨_, rfl⟩
  rw [← hg] at hm
  have HG := Lib.hid hg
  obtain ⟨n, hn⟩ : ∃ n, n = l.length := ⟨_, rfl⟩
  rw [← hn] at HJ HL
  have HN := Lib.hid hn
  have HK := Lib.hid hK
  have HNk := Lib.hid hnk
  clear hna hnc hA hC hsm hoa hob hn hK hnk hg
  go_enter Tryz.func33, Tryz.ntmps33
  go_wp2_with (first
    | (go_at_call 63; refine HJ.out.mono ?_; rintro en w2 ⟨A', c', rfl, hr, hok, hb2⟩; have HP := glt_any K A' nk ck n c' keys l w2 HNk.out HN.out.symm ((HK.out.below hb2).more hb2.size) hr hok HL.out; rw [← HG.out] at HP; replace HP := Lib.hid HP; clear hr hok)
    | (go_at_call 15; refine HP.out.mono ?_; rintro en w3 ⟨rfl, hb3⟩; have hbw3 := hb2.trans (hb3.mono hb2.size))
    | (go_at_call 40; refine (HS.out _).mono ?_; rintro en w4 ⟨rfl, hw4⟩; replace hw4 := hw4.symm; subst hw4))
  go_ret
  exact ⟨rfl, hbw3⟩
end Go.Proofs.YthmecidpjlaonaaGreat
