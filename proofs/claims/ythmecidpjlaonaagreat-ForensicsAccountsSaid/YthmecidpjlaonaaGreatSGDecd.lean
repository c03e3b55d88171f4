/-
  superblock.Decide and Choices: the first outcome of each member's slot, with what accept.Outcomes tells of it; their slots and values. Conditions: valid votes in memory below the call.
  superblock.Choices returns the slots and values of outcomes, in new memory. Condition: the outcomes lie in memory below the call.
  What the walks tell of accepted votes is what the theorem asks (AccS), in plain lists. No condition.
  Unlike choices of two lists leave a third of the committee guilty (plain lists and sets). No condition but those of the theorem.
-/
import Derived.Test.YthmecidpjlaonaaGreatSGOut
import Derived.Test.YthmecidpjlaonaaGreatSGComm
import Derived.Test.YthmecidpjlaonaaGreatSGMapR
import Derived.Test.YthmecidpjlaonaaGreatHSgs
import Derived.Test.YthmecidpjlaonaaGreatSGAsc
import Derived.Test.YthmecidpjlaonaaGreatSGAcP
import Derived.Test.YthmecidpjlaonaaGreatSGForU
namespace Go.Proofs.YthmecidpjlaonaaGreat
open Go.RowKit Go.Shelf
attribute [local go_sem ↓] Go.wp_at_zero Go.wp_at_succ loadNm loadVt loadSg loadEv loadOc
attribute [local go_sem] runNm runVt runSg runEv runOc pickRow_some rowAt_drew rowAt_drewN
/-- An outcome that is decided. -/
def DecO (M : Int) (p : Nm) (l : List Vt) (o : Oc) : Prop := ∃ O, AccO M p o.slot l O ∧ OutS (xOf M) O o.round o.choice o.value
/-- The outcomes of the members below i. -/
def DecL (M : Int) (p : Nm) (l : List Vt) (i : Nat) (L : List Oc) : Prop := L.map (·.slot) = (idsF (xOf M) i).map (fun k : Nat => (k : Int)) ∧ ∀ o ∈ L, DecO M p l o
/-- What Decide comes to. -/
def DecPost (M : Int) (p : Nm) (l : List Vt) (w : World) (e : Ending) (w' : World) : Prop :=
  ∃ (v : Value) (L : List Oc) (b : Bool), e = .returned (.tuple #[v, .bool b]) ∧ w'.ownsRow w.heap.size 101 11 v L.length (L.flatMap occ) ∧ Below w.heap.size w w' ∧ L.length ≤ 10 ∧ (b = true → DecL M p l 10 L ∧ 0 < L.length)
def DecRel (M : Int) (p : Nm) (l : List Vt) (w : World) (v iv : Value) (wr : World) : Prop :=
  ∃ (i : Nat) (L : List Oc), iv = .int .i64 (i : Int) ∧ i ≤ 10 ∧ L.length ≤ i ∧ DecL M p l i L ∧ wr.ownsRow w.heap.size 101 11 v L.length (L.flatMap occ) ∧ Below w.heap.size w wr

set_option maxRecDepth 100000 in
set_option maxHeartbeats 8000000 in
theorem decd_any (M : Int) (p : Nm) (A : Option Addr) (n c : Nat) (l : List Vt) (w0 : World) (hn : l.length = n) (hr : Rd w0 w0.heap.size A (l.flatMap vtc)) (hsm : n ≤ 1000000) (hl : ∀ v ∈ l, ValidP v) :
    Calls Tryz.prog 36 #[.int .i64 M, p.val, .slice A n c] w0 (DecPost M p l w0) := by
  obtain ⟨w, hw⟩ : ∃ wa, wa = w0.alloc (.cells p.cells 29) := ⟨_, rfl⟩
  have hb0 : Below w0.heap.size w0 w := by rw [hw]; exact (Below.refl _ _).alloc (Nat.le_refl _) _
  have hBq : Blk w w0.heap.size 29 p.cells := by rw [hw]; exact Blk.new w0 _ _
  obtain ⟨q, hq⟩ : ∃ q, q = w0.heap.size := ⟨_, rfl⟩
  have HN := Lib.hid hn
  have HR := Lib.hid ((hr.below hb0).more hb0.size)
  have HL := Lib.hid hl
  have HW := Lib.hid hw
  rw [← hq] at hBq
  have HBq := Lib.hid hBq
  have hqw : q < w.heap.size := hBq.lt
  have HQ := Lib.hid hq
  have HHas : Hid (∀ (i : Nat) (W : World), i < 10 → Calls Tryz.prog 67 #[.int .i64 M, .int .i64 (i : Int)] W fun e w' => e = .returned (.bool ((xOf M).testBit i)) ∧ w' = W) := fun i W hi => chas_any M i hi W
  have HOut : Hid (∀ (s : Nat) (W : World), Below w.heap.size w W → (xOf M).testBit s = true → Calls Tryz.prog 68 #[.int .i64 M, p.val, .slice A n c, .int .i64 (s : Int)] W (OutPost M p s l W)) := fun s W hW hs => out_any M p A n c l s W HN.out ((HR.out.below hW).more hW.size) hsm HL.out hs
  clear hn hr hl hw hBq hq
  go_enter Tryz.func36, Tryz.ntmps36
  go_upto_region 1 with fail
  simp only [← HW.out, ← HQ.out]
  go_wp2
  go_loopw [8, 11] (fun v iv wr => DecRel M p l w v iv wr) (fun _ iv _ => 10 - (intOf iv).toNat)
  case atStart => exact ⟨0, [], rfl, Nat.zero_le _, Nat.le_refl _, ⟨by simp [idsF], fun s hs => (List.not_mem_nil hs).elim⟩, ⟨by simp, .inl ⟨rfl, rfl⟩⟩, Below.refl _ _⟩
  case round =>
    obtain ⟨i, L, rfl, hin, hLi, hL, hown, hbw⟩ := hrel
    have HLd := Lib.hid hL
    have HOwn := Lib.hid hown
    have y1 : rowAt wr q 0 8 = some p.cells := (HBq.out.below hbw hqw).row 8 rfl
    clear hL hown
    by_cases hi : i < 10
    · have di : decide ((i : Int) < 10) = true := by simp; omega
      obtain ⟨k, hk⟩ : ∃ k, k = (xOf M).testBit i := ⟨_, rfl⟩
      have HK := Lib.hid hk
      have HHi : Hid (∀ W, Calls Tryz.prog 67 #[.int .i64 M, .int .i64 (i : Int)] W fun e w' => e = .returned (.bool k) ∧ w' = W) := fun W => by rw [hk]; exact HHas.out i W hi
      clear hk
      go_wp2_with fail
      refine (HHi.out _).mono ?_
      rintro en w5' ⟨rfl, hw5'⟩
      replace hw5' := hw5'.symm
      subst hw5'
      cases k with
      | false =>
        go_wp2
        go_roundw
        case rel => exact ⟨i + 1, L, by go_num, by omega, by omega, ⟨by rw [idsF_miss HK.out.symm]; exact HLd.out.1, HLd.out.2⟩, HOwn.out, hbw⟩
        case measure => simp [intOf]; omega
      | true =>
        go_wp2_with fail
        refine (HOut.out i _ hbw HK.out.symm).mono ?_
        rintro en w2 ⟨v2, L2, O2, rfl, hO2, hL2, hl2, hown2, hb2⟩
        have hbw2 : Below w.heap.size w w2 := hbw.trans (hb2.mono hbw.size)
        have HOwn2 : Hid (w2.ownsRow w.heap.size 101 11 u8 L.length (L.flatMap occ)) := own_below HOwn.out hb2 (Nat.le_refl _)
        rcases own_tail hown2 with ⟨rfl, h0, _⟩ | ⟨g, cap, T, rfl, hg, hblk, hcap⟩
        · clear hO2 hL2 hown2 y1 hl2 h0
          go_wp2
          go_ret2
          exact ⟨_, [], false, rfl, ⟨by simp, .inl ⟨rfl, rfl⟩⟩, hb0.trans (hbw2.mono hb0.size), by simp, fun h => by cases h⟩
        · rcases L2 with _ | ⟨x, L2⟩
          · clear hO2 hL2 hown2 y1 hl2 hblk
            simp only [List.length_nil]
            go_wp2
            go_ret2
            exact ⟨_, [], false, rfl, ⟨by simp, .inl ⟨rfl, rfl⟩⟩, hb0.trans (hbw2.mono hb0.size), by simp, fun h => by cases h⟩
          · have hx := hL2 x List.mem_cons_self
            have x3 : rowAt w2 g 0 11 = some x.cells := by
              have h := RowE.oc (T := T) (w0 := w2) (i := 0) ⟨hblk, one_refl w2 g⟩ (show (x :: L2)[0]? = some x from rfl)
              simpa using h
            have HX : Hid (x.slot = (i : Int) ∧ DecO M p l x) := ⟨hx.1, O2, by rw [hx.1]; exact hO2, hx.2⟩
            obtain ⟨m, hm⟩ : ∃ m, m = (x :: L2).length := ⟨_, rfl⟩
            have hm0 : 0 < m := by rw [hm]; simp
            rw [← hm] at hcap ⊢
            have dm : ((m : Int) == 0) = false := by simp; omega
            clear hO2 hL2 hown2 hl2 hblk hx hm y1
            go_wp2_with ((first
              | (refine wpList_build1 rfl 62 101 (.tmp 29) rfl x.cells rfl Tryz.underlying62 (by kernel_rfl) (by decide) (by decide) ?_)
              | (at_builtin; refine wpList_app rfl (.tmp 26) (.tmp 30) _ rfl w.heap.size 101 (.agg Oc.zero.cells) 11 32 Tryz.underlying62 info_oc rfl (by decide) u8 L.length (L.flatMap occ) rfl ?r0 (w2.heap.size + 1) (some ⟨w2.heap.size, 0, none⟩) 1 1 (occ x) rfl ?r1 ?r2 ?r3 ?r4 ?r5 ?r6 ?_)))
            case r0 => exact HOwn2.out.alloc _
            case r1 => rfl
            case r2 => exact Rd.mk (by omega) (fun j u hu => by rw [Nat.zero_add, (Blk.new w2 _ _).cell]; simpa using hu)
            case r3 => exact fun u hu => one_oc x hu
            case r4 => omega
            case r5 => unfold maxLen; omega
            case r6 => have := hbw2.size; simp; omega
            intro v7 w7 hown7 hg7 hat7
            have hbw7 : Below w.heap.size w w7 := below_own (hbw2.alloc hbw2.size _) (HOwn2.out.alloc _) hg7
            have HOwn7 := Lib.hid hown7
            clear hown7 hg7 hat7 x3 HOwn2
            go_wp2
            go_roundw
            case rel =>
              refine ⟨i + 1, L ++ [x], by go_num, by omega, by rw [List.length_append]; simp; omega, ⟨?_, ?_⟩, ?_, hbw7⟩
              · rw [idsF_hit HK.out.symm, List.map_append, List.map_append, HLd.out.1]
                simp [HX.out.1]
              · intro t ht
                rcases List.mem_append.1 ht with ht | ht
                · exact HLd.out.2 t ht
                · rw [List.mem_singleton.1 ht]; exact HX.out.2
              · have h := HOwn7.out
                rw [List.length_append, List.flatMap_append]
                simpa using h
            case measure => simp [intOf]; omega
    · have di : decide ((i : Int) < 10) = false := by simp; omega
      have hi10 : i = 10 := by omega
      have HI := Lib.hid hi10
      obtain ⟨A1, c1, rfl, hc1⟩ : ∃ A1 c1, u8 = .slice A1 L.length c1 ∧ True := by
        rcases HOwn.out.2 with ⟨rfl, h0⟩ | ⟨g, cap, cur, rfl, _⟩
        · exact ⟨none, 0, by rw [h0], trivial⟩
        · exact ⟨_, cap, rfl, trivial⟩
      clear hi10 hc1
      obtain ⟨m, hm⟩ : ∃ m, m = L.length := ⟨_, rfl⟩
      rw [← hm]
      have HM := Lib.hid hm
      clear hm
      go_wp2
      go_ret2
      refine ⟨_, L, _, rfl, by have h := own_base HOwn.out hb0.size; rw [← HM.out] at h ⊢; exact h, hb0.trans (hbw.mono hb0.size), by omega, fun hb => ⟨by have h := HLd.out; rw [HI.out] at h; exact h, ?_⟩⟩
      rw [← HM.out]
      simpa using hb
end Go.Proofs.YthmecidpjlaonaaGreat
namespace Go.Proofs.YthmecidpjlaonaaGreat
open Go.RowKit
attribute [local go_sem ↓] Go.wp_at_zero Go.wp_at_succ loadNm loadVt loadSg loadEv loadOc
attribute [local go_sem] runNm runVt runSg runEv runOc pickRow_some rowAt_drew rowAt_drewN
/-- A slot and a value. -/
structure Ch where
  slot : Int
  value : Nm
  deriving DecidableEq
abbrev Ch.cells (o : Ch) : Array Value := #[I o.slot, B o.value.b0, B o.value.b1, B o.value.b2, B o.value.b3, B o.value.b4, B o.value.b5, B o.value.b6, B o.value.b7]
abbrev Ch.val (o : Ch) : Value := .agg o.cells
abbrev Ch.zero : Ch := ⟨0, Nm.zero⟩
abbrev chc (o : Ch) : List Value := o.cells.toList
theorem chc_len (l : List Ch) : ∀ o ∈ l, (chc o).length = 9 := fun _ _ => rfl
theorem one_ch {u : Value} (o : Ch) (h : u ∈ o.cells.toList) : u.oneCell' = true := by
  simp at h
  rcases h with rfl | rfl | rfl | rfl | rfl | rfl | rfl | rfl | rfl <;> rfl
def chOf (o : Oc) : Ch := ⟨o.slot, o.value⟩
theorem info_ch : (Tryz.prog.info? 70).map (fun i => (i.zero, i.size, i.bytes)) = some (some (.agg Ch.zero.cells), 9, 16) := by kernel_rfl
set_option maxRecDepth 100000 in
theorem eqCh (a b : Ch) (w : World) : (Op.equalIn 10000 70 a.val b.val).run Tryz.prog w = .ok (decide (a = b)) w := by
  have u3 := Tryz.underlying3
  have a3 := Tryz.isAgg3
  have z3 := Tryz.sizeOf3
  have a5 := Tryz.isAgg29
  have z5 := Tryz.sizeOf29
  have hS : Tryz.prog.underlying 70 = some (.struct (Tryz.prog.fieldsOf 70)) := by kernel_rfl
  rw [show (10000 : Nat) = 9999 + 1 from rfl, run_equalIn_agg w 9999 70 _ _ hS (by kernel_rfl)]
  have e6 := fun w => eqNm a.value b.value w 9997
  simp only [Program.fieldsOf, Tryz.underlying70]
  go_simp
  rw [ite_last]
  refine ite_ok w ?_
  cases a; cases b; simp
/-- What Choices comes to. -/
def ChPost (w : World) (L : List Oc) (e : Ending) (w' : World) : Prop :=
  ∃ v : Value, e = .returned v ∧ w'.ownsRow w.heap.size 70 9 v L.length ((L.map chOf).flatMap chc) ∧ Below w.heap.size w w'
def ChRel (L : List Oc) (w : World) (v iv : Value) (wr : World) : Prop :=
  ∃ i : Nat, iv = .int .i64 (i : Int) ∧ i ≤ L.length ∧ wr.ownsRow w.heap.size 70 9 v i (((L.take i).map chOf).flatMap chc) ∧ Below w.heap.size w wr

set_option maxRecDepth 100000 in
set_option maxHeartbeats 8000000 in
theorem chc_any (A : Option Addr) (n c : Nat) (L : List Oc) (w : World) (hn : L.length = n) (hr : Rd w w.heap.size A (L.flatMap occ)) (hsm : n ≤ 1000000) :
    Calls Tryz.prog 38 #[.slice A n c] w (ChPost w L) := by
  have HN := Lib.hid hn
  have HR := Lib.hid hr
  clear hn hr
  go_enter Tryz.func38, Tryz.ntmps38
  go_wp2
  go_loopw [3, 8] (fun v iv wr => ChRel L w v iv wr) (fun _ iv _ => n - (intOf iv).toNat)
  case atStart => exact ⟨0, rfl, Nat.zero_le _, ⟨by simp, .inl ⟨rfl, rfl⟩⟩, Below.refl _ _⟩
  case round =>
    obtain ⟨i, rfl, hin, hown, hbw⟩ := hrel
    rw [HN.out] at hin
    by_cases hi : i < n
    · have di : decide ((i : Int) < (n : Int)) = true := by simp; omega
      obtain ⟨T, hT⟩ : ∃ T, T = ((L.take i).map chOf).flatMap chc := ⟨_, rfl⟩
      rw [← hT] at hown
      have HT := Lib.hid hT
      have HOwn := Lib.hid hown
      clear hown hT
      obtain ⟨x, hx⟩ : ∃ x, L[i]? = some x := ⟨_, List.getElem?_eq_getElem (by rw [HN.out]; exact hi)⟩
      obtain ⟨b, o, rfl, hb, hcell⟩ := HR.out.cells (by intro e; have := flat_length occ 11 L (occ_len L); rw [e, HN.out] at this; simp at this; omega)
      clear hcell
      have x1 : rowAt wr b (o + i * 11) 11 = some x.cells := (HR.out.below hbw).ocRow hx
      have HX := Lib.hid hx
      clear hx
      go_upto_region 5 with (refine wpList_store_blk rfl 101 (.tmp 5) (.tmp 11) rfl wr.heap.size x.cells rfl rfl 101 Oc.zero.cells (Blk.new wr _ _) (by rfl) (by kernel_rfl) (fun u hu => one_oc x hu) ?_; intro w4 hB4 hg4 hsz4)
      have HOwn4 : Hid (w4.ownsRow w.heap.size 70 9 u3 i T) := own_kept (HOwn.out.alloc _) hg4 (fun k hk => by
        injection hk with hk
        subst hk
        right
        intro e
        have := (HOwn.out.lt _ e).2
        omega)
      have hbw4 : Below w.heap.size w w4 := (hbw.alloc hbw.size _).grown hg4 (Nat.le_trans hbw.size (by simp)) (fun k hk => by injection hk with hk; subst hk; exact hbw.size)
      obtain ⟨z, hz⟩ : ∃ z, z = wr.heap.size := ⟨_, rfl⟩
      rw [← hz] at hB4 ⊢
      have x3 : rowAt w4 z 3 8 = some x.value.cells := x.row_value hB4
      have x4 : w4.cell? ⟨z, 0, none⟩ = some (.int .i64 x.slot) := hB4.cell 0
      clear hB4 hg4 hsz4 x1 hz HOwn hbw
      try go_frame
      go_wp2_with ((first
        | (refine wpList_build1 rfl 67 70 (.tmp 17) rfl (chOf x).cells rfl Tryz.underlying67 (by kernel_rfl) (by decide) (by decide) ?_)
        | (at_builtin; refine wpList_app rfl (.tmp 12) (.tmp 18) _ rfl w.heap.size 70 (.agg Ch.zero.cells) 9 16 Tryz.underlying67 info_ch rfl (by decide) u3 i T rfl ?r0 (w4.heap.size + 1) (some ⟨w4.heap.size, 0, none⟩) 1 1 (chc (chOf x)) rfl ?r1 ?r2 ?r3 ?r4 ?r5 ?r6 ?_)))
      case r0 => exact HOwn4.out.alloc _
      case r1 => rfl
      case r2 => exact Rd.mk (by omega) (fun j u hu => by rw [Nat.zero_add, (Blk.new w4 _ _).cell]; simpa [chOf] using hu)
      case r3 => exact fun u hu => one_ch _ hu
      case r4 => omega
      case r5 => unfold maxLen; omega
      case r6 => have := hbw4.size; simp; omega
      intro v7 w7 hown7 hg7 hat7
      have hbw7 : Below w.heap.size w w7 := below_own (hbw4.alloc hbw4.size _) (HOwn4.out.alloc _) hg7
      have HOwn7 := Lib.hid hown7
      clear hown7 hg7 hat7 x3 x4 HOwn4
      go_wp2
      go_roundw
      case rel =>
        refine ⟨i + 1, by go_num, by rw [HN.out]; omega, ?_, hbw7⟩
        have h := HOwn7.out
        rw [HT.out] at h
        rw [List.take_add_one, HX.out, List.map_append, List.flatMap_append]
        simpa using h
      case measure => simp [intOf]; omega
    · obtain rfl : n = i := by omega
      have di : decide ((n : Int) < (n : Int)) = false := by simp
      have HT : Hid (L.take n = L) := by unfold Hid; rw [← HN.out, List.take_length]
      rw [HT.out] at hown
      have HOwn := Lib.hid hown
      clear hown
      go_wp2
      go_ret
      exact ⟨_, rfl, by rw [HN.out]; exact HOwn.out, hbw⟩
end Go.Proofs.YthmecidpjlaonaaGreat
namespace Go.Proofs.YthmecidpjlaonaaGreat
open Go.RowKit

theorem bit_of (M : Int) (i : Nat) (hi : i < 10) : (BitVec.ofInt 64 M).getLsbD i = (xOf M).testBit i := by
  have e : xOf M = (BitVec.ofInt 64 M).toNat % 2 ^ 10 := by
    rw [BitVec.toNat_ofInt]
    unfold xOf
    omega
  rw [e, Nat.testBit_mod_two_pow, decide_eq_true hi, Bool.true_and]
  rfl
theorem andNot_in (a M : Int) (h : bits .andNot .i64 a M = 0) : InN (xOf a) (xOf M) := by
  have h1 : IntKind.i64.wrap ((BitVec.ofInt 64 a &&& ~~~BitVec.ofInt 64 M).toNat : Int) = 0 := h
  have h2 : (BitVec.ofInt 64 a &&& ~~~BitVec.ofInt 64 M) = 0#64 := by
    have hlt := (BitVec.ofInt 64 a &&& ~~~BitVec.ofInt 64 M).isLt
    rw [IntKind.wrap_i64] at h1
    apply BitVec.eq_of_toNat_eq
    simp only [BitVec.toNat_ofNat]
    omega
  intro i hi hb
  have h3 := congrArg (fun x : BitVec 64 => x.getLsbD i) h2
  simp only [BitVec.getLsbD_and, BitVec.getLsbD_not, BitVec.getLsbD_zero, bit_of a i hi, bit_of M i hi, hb] at h3
  have h64 : decide (i < 64) = true := by simp; omega
  rw [h64] at h3
  simpa using h3
theorem sameB_iff {a b : Vt} (h : sameB a b = true) : SameV a b := by
  unfold sameB at h
  rw [Bool.and_eq_true, decide_eq_true_eq, decide_eq_true_eq] at h
  exact h
theorem supB_of {M : Int} {q : Nat} {v : Vt} {C : List Vt} {pr : Vt → Bool} (h : supB M q v C pr = true) : ∃ S, InN S (xOf M) ∧ popF S 10 = q ∧ ∀ i, i < 10 → S.testBit i = true → ∃ w ∈ C, w.signer = (i : Int) ∧ pr w = true := by
  unfold supB at h
  rw [Bool.and_eq_true, Bool.and_eq_true, decide_eq_true_eq, decide_eq_true_eq, List.all_eq_true] at h
  refine ⟨xOf v.support, andNot_in _ _ h.1, h.2.1, fun i hi hb => ?_⟩
  have h1 := h.2.2 i (idsF_mem.2 ⟨hi, hb⟩)
  obtain ⟨w, hw, h2⟩ := List.any_eq_true.1 h1
  rw [Bool.and_eq_true, decide_eq_true_eq] at h2
  exact ⟨w, hw, h2.1, h2.2⟩
theorem accS_of {M : Int} {p : Nm} {s : Int} {l O : List Vt} (h : AccO M p s l O) (hx : 0 < popF (xOf M) 10) : AccS (xOf M) p s l O where
  mem v hv := (h.2 v hv).1
  ok v hv := ⟨(h.2 v hv).2.1.1, (h.2 v hv).2.2.1, (h.2 v hv).2.1.2.2⟩
  prev v hv hk hr := by
    obtain ⟨k, hkv⟩ := List.mem_iff_getElem?.1 hv
    have ha := h.1 k v hkv
    unfold AllowR at ha
    rw [if_neg (by omega), eq_comm, Bool.and_eq_true] at ha
    have hb := ha.2
    unfold allowB at hb
    rw [if_neg (by omega), if_neg (by omega), if_pos hk] at hb
    unfold prevB at hb
    rw [if_neg (by omega), Bool.or_eq_true, Bool.and_eq_true, Bool.and_eq_true] at hb
    have hsub : ∀ w, w ∈ O.take k → w ∈ O := fun w hw => List.mem_of_mem_take hw
    rcases hb with ⟨h1, h2⟩ | ⟨h1, h2⟩
    · obtain ⟨S, hS, hq, hw⟩ := supB_of h1
      refine ⟨⟨S, hS, by omega, fun i hi hb => ?_⟩, ?_⟩
      · obtain ⟨w, hw1, hw2, hw3⟩ := hw i hi hb
        unfold pEith pVal pMix at hw3
        simp only [Bool.or_eq_true, Bool.and_eq_true, decide_eq_true_eq] at hw3
        rcases hw3 with ⟨e1, e2, e3⟩ | ⟨e1, e2, e3⟩
        · exact ⟨w, hsub w hw1, hw2, e1, e2, .inl (sameB_iff e3)⟩
        · exact ⟨w, hsub w hw1, hw2, e1, e2, .inr e3⟩
      · obtain ⟨w, hw1, hw2⟩ := List.any_eq_true.1 h2
        unfold pIn pVal at hw2
        simp only [Bool.and_eq_true, decide_eq_true_eq] at hw2
        exact ⟨w, hsub w hw1, hw2.2.2.1, sameB_iff hw2.2.2.2, .inl hw2.2.1⟩
    · obtain ⟨S, hS, hq, hw⟩ := supB_of h1
      refine ⟨⟨S, hS, by omega, fun i hi hb => ?_⟩, ?_⟩
      · obtain ⟨w, hw1, hw2, hw3⟩ := hw i hi hb
        unfold pMix at hw3
        simp only [Bool.and_eq_true, decide_eq_true_eq] at hw3
        exact ⟨w, hsub w hw1, hw2, hw3.1, hw3.2.1, .inr hw3.2.2⟩
      · obtain ⟨w, hw1, hw2⟩ := List.any_eq_true.1 h2
        unfold pPrev at hw2
        simp only [Bool.and_eq_true, decide_eq_true_eq] at hw2
        exact ⟨w, hsub w hw1, hw2.2.1, sameB_iff hw2.2.2, .inr hw2.1⟩
  prec v hv hk hc := by
    obtain ⟨k, hkv⟩ := List.mem_iff_getElem?.1 hv
    have ha := h.1 k v hkv
    unfold AllowR at ha
    rw [if_neg (fun hh => hc hh.2), eq_comm, Bool.and_eq_true] at ha
    have hb := ha.2
    unfold allowB at hb
    rw [if_neg (by omega), if_neg (by omega), if_neg (by omega)] at hb
    obtain ⟨S, hS, hq, hw⟩ := supB_of hb
    have hp := quo_pos hx
    obtain ⟨i, hi, ht⟩ := popF_pos 10 (show 0 < popF S 10 by omega)
    obtain ⟨w, hw1, hw2, hw3⟩ := hw i hi ht
    unfold pRndS pRnd at hw3
    simp only [Bool.and_eq_true, decide_eq_true_eq] at hw3
    exact ⟨w, List.mem_of_mem_take hw1, hw3.1.1, hw3.1.2, sameB_iff hw3.2⟩
end Go.Proofs.YthmecidpjlaonaaGreat
namespace Go.Proofs.YthmecidpjlaonaaGreat
open Go.RowKit

theorem popF_bit {a i : Nat} : ∀ n, i < n → a.testBit i = true → 0 < popF a n
  | 0, h, _ => by omega
  | n + 1, h, hb => by
    rw [popF_step]
    by_cases e : i = n
    · subst e
      rw [hb]
      simp
    · have := popF_bit n (by omega) hb
      omega
theorem and_swap (a b : Int) : bits .and .i64 a b = bits .and .i64 b a := by
  show IntKind.i64.wrap ((BitVec.ofInt 64 a &&& BitVec.ofInt 64 b).toNat : Int) = IntKind.i64.wrap ((BitVec.ofInt 64 b &&& BitVec.ofInt 64 a).toNat : Int)
  rw [BitVec.and_comm]
theorem and_bitM {M : Int} {g X : Nat} (hg : g < 1024) (hX : X < 1024) (h : bits .and .i64 M (g : Int) = (X : Int)) (i : Nat) (hi : i < 10) : X.testBit i = ((xOf M).testBit i && g.testBit i) := by
  have h1 : IntKind.i64.wrap ((BitVec.ofInt 64 M &&& BitVec.ofInt 64 (g : Int)).toNat : Int) = (X : Int) := h
  have h2 : (BitVec.ofInt 64 M &&& BitVec.ofInt 64 (g : Int)).toNat = X := by
    have hlt := (BitVec.ofInt 64 M &&& BitVec.ofInt 64 (g : Int)).isLt
    rw [IntKind.wrap_i64] at h1
    omega
  have h3 : (BitVec.ofInt 64 M &&& BitVec.ofInt 64 (g : Int)).getLsbD i = X.testBit i := by
    rw [← h2]
    rfl
  rw [← h3, BitVec.getLsbD_and, bit_of M i hi, bit_of (g : Int) i hi, xOf_nat g hg]
theorem slot_at {X Y : List Oc} (h : X.map (·.slot) = Y.map (·.slot)) {j : Nat} {x y : Oc} (hx : X[j]? = some x) (hy : Y[j]? = some y) : x.slot = y.slot := by
  have := congrArg (fun l => l[j]?) h
  simp only [List.getElem?_map, hx, hy, Option.map_some, Option.some.injEq] at this
  exact this
theorem unlike_guilty {keys : List Nm} {M : Int} {p : Nm} {l l' : List VS} {LA LB : List Vt} (hA : ∀ v ∈ LA, ∃ y ∈ l, y.1 = v ∧ verK keys y.1 y.2 = true) (hB : ∀ v ∈ LB, ∃ y ∈ l', y.1 = v ∧ verK keys y.1 y.2 = true) {X Y : List Oc} (hX : DecL M p LA 10 X) (hY : DecL M p LB 10 Y)
    {j : Nat} {x y : Oc} (hx : X[j]? = some x) (hy : Y[j]? = some y) (hne : chOf x ≠ chOf y) {z : Nat} (hz : z < 1024) (hand : bits .and .i64 M ((gltF keys (l ++ l') : Nat) : Int) = (z : Int)) :
    0 < thiF (popF (xOf M) 10) ∧ thiF (popF (xOf M) 10) ≤ popF z 10 ∧ findS (cvS keys (l ++ l')) 10 ≠ [] := by
  have hs : x.slot = y.slot := slot_at (hX.1.trans hY.1.symm) hx hy
  have hv : x.value ≠ y.value := fun e => hne (by unfold chOf; rw [hs, e])
  have hpos : 0 < popF (xOf M) 10 := by
    have h1 := congrArg (fun l => l[j]?) hX.1
    simp only [List.getElem?_map, hx, Option.map_some] at h1
    obtain ⟨k, hk, _⟩ := Option.map_eq_some_iff.1 h1.symm
    obtain ⟨h2, h3⟩ := idsF_mem.1 (List.mem_of_getElem? hk)
    exact popF_bit 10 h2 h3
  obtain ⟨O, hO, hOut⟩ := hX.2 x (List.mem_of_getElem? hx)
  obtain ⟨O', hO', hOut'⟩ := hY.2 y (List.mem_of_getElem? hy)
  rw [← hs] at hO'
  have hT := unlike_third (accS_of hO hpos) (accS_of hO' hpos) hpos hOut hOut' hv
  have hg : gltF keys (l ++ l') < 1024 := gltF_lt keys (l ++ l')
  have hle := third_guilty (keys := keys) (L := l ++ l') (g := z) hT (fun v hv => by
    rcases List.mem_append.1 hv with h | h
    · obtain ⟨y, h1, h2⟩ := hA v h
      exact ⟨y, List.mem_append_left _ h1, h2⟩
    · obtain ⟨y, h1, h2⟩ := hB v h
      exact ⟨y, List.mem_append_right _ h1, h2⟩) (fun i hi h1 h2 => by
    rw [and_bitM hg hz hand i hi, h1, (gltF_bit keys (l ++ l') i).2 h2]
    rfl)
  have ht : 0 < thiF (popF (xOf M) 10) := by unfold thiF; rw [if_neg (by omega)]; omega
  refine ⟨ht, hle, fun h0 => ?_⟩
  obtain ⟨i, hi, hb⟩ := popF_pos 10 (Nat.lt_of_lt_of_le ht hle)
  rw [and_bitM hg hz hand i hi, Bool.and_eq_true] at hb
  have h1 : gltF keys (l ++ l') = maskS (findS (cvS keys (l ++ l')) 10) := rfl
  rw [h1, h0] at hb
  simp [maskS] at hb
end Go.Proofs.YthmecidpjlaonaaGreat
