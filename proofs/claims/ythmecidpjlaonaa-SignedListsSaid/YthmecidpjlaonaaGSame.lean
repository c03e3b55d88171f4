/-
  The comparison of two signed votes in the statements of layers 8 and 9. Condition: the two lie in memory below the call.
  signed.Encode, signed.Decode and the reference's, in one contract each; what is encoded is decoded again. Condition: the arguments lie in memory below the call.
-/
import Derived.Test.YthmecidpjlaonaaGPCan
namespace Go.Proofs.Ythmecidpjlaonaa
open Go.RowKit
attribute [local go_sem ↓] Go.wp_at_zero Go.wp_at_succ loadNm loadVt loadSg loadEv
attribute [local go_sem] runNm runVt runSg runEv pickRow_some rowAt_drew rowAt_drewN

theorem str_eq (a b : List UInt8) : ((⟨a.toArray⟩ : ByteArray).toList == (⟨b.toArray⟩ : ByteArray).toList) = decide (a = b) := by
  rw [ByteArray.toList_eq, ByteArray.toList_eq, Bool.eq_iff_iff, beq_iff_eq, decide_eq_true_eq]
theorem vs_iff (a b : Sg) : a.vs = b.vs ↔ a.vote = b.vote ∧ a.sig = b.sig := by simp [Prod.ext_iff]

set_option maxRecDepth 100000 in
set_option maxHeartbeats 1000000 in
theorem same8_any (a b : Sg) (w : World) (ha : SgOk w w.heap.size a) (hb : SgOk w w.heap.size b) : Calls Try.prog 33 #[a.val, b.val] w (BoolPost w (decide (a.vs = b.vs))) := by
  obtain ⟨w1, hw1⟩ : ∃ w1, w1 = (w.alloc (.cells a.cells 43)).alloc (.cells b.cells 43) := ⟨_, rfl⟩
  have hbw : Below w.heap.size w w1 := by rw [hw1]; exact ((Below.refl _ _).alloc (Nat.le_refl _) _).alloc (by simp) _
  have hBa : Blk w1 w.heap.size 43 a.cells := by rw [hw1]; exact (Blk.new w _ _).alloc _
  have hBb : Blk w1 (w.heap.size + 1) 43 b.cells := by
    rw [hw1]
    have := Blk.new (w.alloc (.cells a.cells 43)) 43 b.cells
    simpa using this
  have xa : rowAt w1 w.heap.size 0 22 = some a.vote.cells := a.row_vote hBa
  have xb : rowAt w1 (w.heap.size + 1) 0 22 = some b.vote.cells := b.row_vote hBb
  have ca : w1.cell? ⟨w.heap.size, 22, none⟩ = some (.slice a.A a.sig.length a.cap) := (hBa.cell 22).trans a.cell_sig
  have cb : w1.cell? ⟨w.heap.size + 1, 22, none⟩ = some (.slice b.A b.sig.length b.cap) := (hBb.cell 22).trans b.cell_sig
  have va := conv_str w1 w.heap.size a.A a.cap a.sig (ha.2.1.below hbw)
  have vb := conv_str w1 w.heap.size b.A b.cap b.sig (hb.2.1.below hbw)
  obtain ⟨k1, hk1⟩ : ∃ k, k = decide (a.vote = b.vote) := ⟨_, rfl⟩
  obtain ⟨k2, hk2⟩ : ∃ k, k = decide (a.sig = b.sig) := ⟨_, rfl⟩
  obtain ⟨sa, hsa⟩ : ∃ s : ByteArray, s = ⟨a.sig.toArray⟩ := ⟨_, rfl⟩
  obtain ⟨sb, hsb⟩ : ∃ s : ByteArray, s = ⟨b.sig.toArray⟩ := ⟨_, rfl⟩
  rw [← hsa] at va
  rw [← hsb] at vb
  have e2 : (sa.toList == sb.toList) = k2 := by rw [hsa, hsb, hk2]; exact str_eq _ _
  have e1 : ∀ W, (Op.equalIn 10000 41 (.agg a.vote.cells) (.agg b.vote.cells)).run Try.prog W = .ok k1 W := fun W => by rw [hk1]; exact eqVt a.vote b.vote W
  have hr : decide (a.vs = b.vs) = (k1 && k2) := by
    rw [hk1, hk2, Bool.eq_iff_iff, decide_eq_true_eq, vs_iff, Bool.and_eq_true, decide_eq_true_eq, decide_eq_true_eq]
  rw [hr]
  clear hk1 hk2 hsa hsb hr hBa hBb ha hb
  go_enter Try.func33, Try.ntmps33
  go_upto_region 1 with fail
  rw [← hw1]
  clear hw1
  cases k1 with
  | true =>
    go_wp2
    go_ret
    exact ⟨rfl, hbw⟩
  | false =>
    go_wp2
    go_ret
    exact ⟨rfl, hbw⟩

set_option maxRecDepth 100000 in
set_option maxHeartbeats 1000000 in
theorem same9_any (a b : Sg) (w : World) (ha : SgOk w w.heap.size a) (hb : SgOk w w.heap.size b) : Calls Try.prog 57 #[a.val, b.val] w (BoolPost w (decide (a.vs = b.vs))) := by
  obtain ⟨w1, hw1⟩ : ∃ w1, w1 = (w.alloc (.cells a.cells 43)).alloc (.cells b.cells 43) := ⟨_, rfl⟩
  have hbw : Below w.heap.size w w1 := by rw [hw1]; exact ((Below.refl _ _).alloc (Nat.le_refl _) _).alloc (by simp) _
  have hBa : Blk w1 w.heap.size 43 a.cells := by rw [hw1]; exact (Blk.new w _ _).alloc _
  have hBb : Blk w1 (w.heap.size + 1) 43 b.cells := by
    rw [hw1]
    have := Blk.new (w.alloc (.cells a.cells 43)) 43 b.cells
    simpa using this
  have xa : rowAt w1 w.heap.size 0 22 = some a.vote.cells := a.row_vote hBa
  have xb : rowAt w1 (w.heap.size + 1) 0 22 = some b.vote.cells := b.row_vote hBb
  have ca : w1.cell? ⟨w.heap.size, 22, none⟩ = some (.slice a.A a.sig.length a.cap) := (hBa.cell 22).trans a.cell_sig
  have cb : w1.cell? ⟨w.heap.size + 1, 22, none⟩ = some (.slice b.A b.sig.length b.cap) := (hBb.cell 22).trans b.cell_sig
  have va := conv_str w1 w.heap.size a.A a.cap a.sig (ha.2.1.below hbw)
  have vb := conv_str w1 w.heap.size b.A b.cap b.sig (hb.2.1.below hbw)
  obtain ⟨k1, hk1⟩ : ∃ k, k = decide (a.vote = b.vote) := ⟨_, rfl⟩
  obtain ⟨k2, hk2⟩ : ∃ k, k = decide (a.sig = b.sig) := ⟨_, rfl⟩
  obtain ⟨sa, hsa⟩ : ∃ s : ByteArray, s = ⟨a.sig.toArray⟩ := ⟨_, rfl⟩
  obtain ⟨sb, hsb⟩ : ∃ s : ByteArray, s = ⟨b.sig.toArray⟩ := ⟨_, rfl⟩
  rw [← hsa] at va
  rw [← hsb] at vb
  have e2 : (sa.toList == sb.toList) = k2 := by rw [hsa, hsb, hk2]; exact str_eq _ _
  have e1 : ∀ W, (Op.equalIn 10000 41 (.agg a.vote.cells) (.agg b.vote.cells)).run Try.prog W = .ok k1 W := fun W => by rw [hk1]; exact eqVt a.vote b.vote W
  have hr : decide (a.vs = b.vs) = (k1 && k2) := by
    rw [hk1, hk2, Bool.eq_iff_iff, decide_eq_true_eq, vs_iff, Bool.and_eq_true, decide_eq_true_eq, decide_eq_true_eq]
  rw [hr]
  clear hk1 hk2 hsa hsb hr hBa hBb ha hb
  go_enter Try.func57, Try.ntmps57
  go_upto_region 1 with fail
  rw [← hw1]
  clear hw1
  cases k1 with
  | true =>
    go_wp2
    go_ret
    exact ⟨rfl, hbw⟩
  | false =>
    go_wp2
    go_ret
    exact ⟨rfl, hbw⟩
end Go.Proofs.Ythmecidpjlaonaa
namespace Go.Proofs.Ythmecidpjlaonaa
open Go.RowKit
attribute [local go_sem ↓] Go.wp_at_zero Go.wp_at_succ loadNm loadVt loadSg loadEv
attribute [local go_sem] runNm runVt runSg runEv pickRow_some rowAt_drew rowAt_drewN

/-- The call returns bytes and a flag. -/
def BytesPost (w : World) (p : List UInt8 × Bool) (e : Ending) (w' : World) : Prop :=
  ∃ A c, e = .returned (.tuple #[.slice A p.1.length c, .bool p.2]) ∧ Rd w' w'.heap.size A (p.1.map B) ∧ p.1.length ≤ c ∧ c ≤ maxLen ∧ Below w.heap.size w w'
theorem own_bytes {w : World} {b n c : Nat} {A : Option Addr} {l : List UInt8} (h : w.ownsRow b 5 1 (.slice A n c) n (l.map B)) : l.length = n ∧ Rd w w.heap.size A (l.map B) ∧ n ≤ c ∧ c ≤ maxLen := by
  have h1 : l.length = n := by have := h.1; rw [List.length_map, Nat.mul_one] at this; exact this
  refine ⟨h1, Rd.of_own h, ?_⟩
  rcases h.2 with ⟨hv, h0⟩ | ⟨g, cap, cur, hv, _, _, h2, h3, _⟩
  · injection hv with _ e1 e2
    subst e1; subst e2
    exact ⟨Nat.le_refl _, by unfold maxLen; omega⟩
  · injection hv with _ _ e2
    subst e2
    exact ⟨h2, h3⟩
theorem bytes_true {w : World} {n : Nat} {l : List UInt8} {e : Ending} {w' : World} (h : RowTrue w 5 1 n (l.map B) e w') : BytesPost w (l, true) e w' := by
  obtain ⟨A, c, rfl, hown, hb⟩ := h
  obtain ⟨h1, h2, h3, h4⟩ := own_bytes hown
  subst h1
  exact ⟨A, c, rfl, h2, h3, h4, hb⟩
theorem bytes_false {w : World} {e : Ending} {w' : World} (h : RowFalse w e w') : BytesPost w ([], false) e w' := by
  obtain ⟨rfl, hb⟩ := h
  exact ⟨none, 0, rfl, .inl rfl, Nat.le_refl _, by unfold maxLen; omega, hb⟩
instance (s : Sg) : Decidable (EncOk s) := by unfold EncOk; infer_instance
def sencF (s : Sg) : List UInt8 × Bool := if EncOk s then (sencB s, true) else ([], false)
theorem senc_any (s : Sg) (w : World) (hs : SgOk w w.heap.size s) : Calls Try.prog 45 #[s.val] w (BytesPost w (sencF s)) := by
  unfold sencF
  by_cases h : EncOk s
  · rw [if_pos h]; exact (senc_yes s w hs h.1 h.2).mono fun _ _ => bytes_true
  · rw [if_neg h]; exact (senc_no s w hs h).mono fun _ _ => bytes_false
theorem rsenc_any (s : Sg) (w : World) (hs : SgOk w w.heap.size s) : Calls Try.prog 46 #[s.val] w (BytesPost w (sencF s)) := by
  unfold sencF
  by_cases h : EncOk s
  · rw [if_pos h]; exact (rsenc_yes s w hs h.1 h.2).mono fun _ _ => bytes_true
  · rw [if_neg h]; exact (rsenc_no s w hs h).mono fun _ _ => bytes_false
/-- What bytes decode to. -/
def sdecF (l : List UInt8) : VS × Int :=
  if l.length < 393 then ((zeroV, []), 2) else if 393 < l.length then ((zeroV, []), 3) else if (decVote (l.take 23)).2 = 0 then (((decVote (l.take 23)).1, l.drop 23), 0) else ((zeroV, []), (decVote (l.take 23)).2)
/-- The call returns a signed vote and an error. -/
def SgErrPost (w : World) (p : VS × Int) (e : Ending) (w' : World) : Prop :=
  ∃ s : Sg, e = .returned (.tuple #[s.val, .int .i64 p.2]) ∧ s.vs = p.1 ∧ SgOk w' w'.heap.size s ∧ SgCap s ∧ Below w.heap.size w w'
theorem zeroSg_ok (w : World) (B' : Nat) : SgOk w B' zeroSg ∧ SgCap zeroSg := ⟨⟨by unfold Vt.ok; exact ⟨by show (-9223372036854775808 : Int) ≤ 0; omega, by show (0 : Int) ≤ 9223372036854775807; omega⟩, .inl rfl, Nat.zero_le _⟩, Nat.le_refl _, Nat.zero_le _⟩
theorem sg_err {w : World} {n : Int} {e : Ending} {w' : World} (h : SDecErr w n e w') : SgErrPost w ((zeroV, []), n) e w' := by
  obtain ⟨rfl, hb⟩ := h
  exact ⟨zeroSg, rfl, rfl, (zeroSg_ok _ _).1, (zeroSg_ok w 0).2, hb⟩
theorem sg_ok {w : World} {v : Vt} {g : List UInt8} {e : Ending} {w' : World} (hv : v.ok) (hg : g.length = 370) (h : SDecOk w v g e w') : SgErrPost w ((v, g), 0) e w' := by
  obtain ⟨A, c, rfl, _, hr, hc, hm, hb⟩ := h
  exact ⟨⟨v, g, A, c⟩, rfl, rfl, ⟨hv, hr, by show g.length ≤ _; omega⟩, ⟨hc, hm⟩, hb⟩
theorem sdec_any (A : Option Addr) (n c : Nat) (l : List UInt8) (w : World) (hn : l.length = n) (hr : Rd w w.heap.size A (l.map B)) (hc : n ≤ c) (hm : c ≤ maxLen) : Calls Try.prog 47 #[.slice A n c] w (SgErrPost w (sdecF l)) := by
  subst hn
  unfold sdecF
  by_cases h1 : l.length < 393
  · rw [if_pos h1]; exact (sdec_short A _ c w h1).mono fun _ _ => sg_err
  · rw [if_neg h1]
    by_cases h2 : 393 < l.length
    · rw [if_pos h2]; exact (sdec_long A _ c w h2).mono fun _ _ => sg_err
    · rw [if_neg h2]
      have h3 : l.length = 393 := by omega
      rw [h3]
      by_cases h4 : (decVote (l.take 23)).2 = 0
      · rw [if_pos h4]; exact (sdec_ok A c l w hr h3 (by omega) hm h4).mono fun _ _ => sg_ok (decVote_ok _) (by rw [List.length_drop]; omega)
      · rw [if_neg h4]; exact (sdec_err A c l w hr h3 (by omega) hm h4).mono fun _ _ => sg_err
theorem rsdec_any (A : Option Addr) (n c : Nat) (l : List UInt8) (w : World) (hn : l.length = n) (hr : Rd w w.heap.size A (l.map B)) (hc : n ≤ c) (hm : c ≤ maxLen) : Calls Try.prog 48 #[.slice A n c] w (SgErrPost w (sdecF l)) := by
  subst hn
  unfold sdecF
  by_cases h1 : l.length < 393
  · rw [if_pos h1]; exact (rsdec_short A _ c w h1).mono fun _ _ => sg_err
  · rw [if_neg h1]
    by_cases h2 : 393 < l.length
    · rw [if_pos h2]; exact (rsdec_long A _ c w h2).mono fun _ _ => sg_err
    · rw [if_neg h2]
      have h3 : l.length = 393 := by omega
      rw [h3]
      by_cases h4 : (decVote (l.take 23)).2 = 0
      · rw [if_pos h4]; exact (rsdec_ok A c l w hr h3 (by omega) hm h4).mono fun _ _ => sg_ok (decVote_ok _) (by rw [List.length_drop]; omega)
      · rw [if_neg h4]; exact (rsdec_err A c l w hr h3 (by omega) hm h4).mono fun _ _ => sg_err
theorem encB_length (v : Vt) : (encB v).length = 23 := rfl
theorem byteI_nat {n : Int} (h0 : 0 ≤ n) (h1 : n ≤ 255) : ((byteI n).toNat : Int) = n := by
  have := byteI_eq h0 h1
  injection this
theorem decV_encB (v : Vt) (h : ValidP v) : decV (encB v) = v := by
  obtain ⟨⟨a0, a1⟩, ⟨b0, b1⟩, ⟨c0, c1⟩, ⟨d0, d1⟩, ⟨e0, e1⟩, f0, f1⟩ := h.bounds
  obtain ⟨k, s, r, c, g, u, ⟨p0, p1, p2, p3, p4, p5, p6, p7⟩, ⟨q0, q1, q2, q3, q4, q5, q6, q7⟩⟩ := v
  simp only at a0 a1 b0 b1 c0 c1 d0 d1 e0 e1 f0 f1
  have h5 : (((byteAt u.toNat 1).toNat * 256 + (byteAt u.toNat 0).toNat : Nat) : Int) = u := by
    unfold byteAt
    simp only [UInt8.toNat_ofNat']
    omega
  show (⟨((byteI k).toNat : Int), ((byteI s).toNat : Int), ((byteI r).toNat : Int), ((byteI c).toNat : Int), ((byteI g).toNat : Int), (((byteAt u.toNat 1).toNat * 256 + (byteAt u.toNat 0).toNat : Nat) : Int), ⟨p0, p1, p2, p3, p4, p5, p6, p7⟩, ⟨q0, q1, q2, q3, q4, q5, q6, q7⟩⟩ : Vt) = _
  rw [h5, byteI_nat (by omega) (by omega), byteI_nat (by omega) (by omega), byteI_nat (by omega) (by omega), byteI_nat (by omega) (by omega), byteI_nat (by omega) (by omega)]
theorem decVote_encB (v : Vt) (h : ValidP v) : decVote (encB v) = (v, 0) := by
  unfold decVote
  rw [encB_length, if_neg (by omega), if_neg (by omega), decV_encB v h, if_pos h]
theorem sdecF_sencB (s : Sg) (h : EncOk s) : sdecF (sencB s) = (s.vs, 0) := by
  have hl : (sencB s).length = 393 := by unfold sencB; rw [List.length_append, encB_length, h.2]
  have ht : (sencB s).take 23 = encB s.vote := by unfold sencB; rw [List.take_append_of_le_length (by rw [encB_length]; omega), List.take_of_length_le (by rw [encB_length]; omega)]
  have hd : (sencB s).drop 23 = s.sig := by unfold sencB; rw [← encB_length s.vote, List.drop_left]
  unfold sdecF
  rw [hl, if_neg (by omega), if_neg (by omega), ht, hd, decVote_encB _ h.1, if_pos rfl]
/-- A signed vote stored into a new cell. -/
theorem wpList_new_sg {ops : Array Oper} {rest : List Oper} {op : Oper} {a : Act} {w : World} {Q : Exit → Act → World → Prop} (hgd : op.guard = none) (x y : Operand) (ho : op.op = .store 43 x y) (s : Sg)
    (hx : a.eval x = .pointer (some ⟨w.heap.size, 0, none⟩)) (hy : a.eval y = .agg s.cells)
    (h : ∀ w', Blk w' w.heap.size 43 s.cells → Below w.heap.size w w' → wpList Try.prog ops Q rest (a.put op.dst undef) w') :
    wpList Try.prog ops Q (op :: rest) a (w.alloc (.cells zeroSc 43)) := by
  refine wpList_store_blk hgd 43 x y ho w.heap.size s.cells hx hy 43 zeroSc (Blk.new w _ _) (by rw [s.size_cells]; rfl) (by rw [s.size_cells]; exact size_sg) (fun u hu => one_sg s hu) ?_
  intro w' hB hg _
  exact h w' hB (((Below.refl _ w).alloc (Nat.le_refl _) _).grown hg (by simp) (by rintro j ⟨⟩; omega))

end Go.Proofs.Ythmecidpjlaonaa
