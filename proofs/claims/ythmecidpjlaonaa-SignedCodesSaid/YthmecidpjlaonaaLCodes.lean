/-
  The law SignedCodes returns true and changes nothing that was there. Condition: its arguments lie in memory below the call.
-/
import Derived.Test.YthmecidpjlaonaaGSame
import Derived.Test.YthmecidpjlaonaaGKey
namespace Go.Proofs.Ythmecidpjlaonaa
open Go.RowKit
attribute [local go_sem ↓] Go.wp_at_zero Go.wp_at_succ loadNm loadVt loadSg loadEv
attribute [local go_sem] runNm runVt runSg runEv pickRow_some rowAt_drew rowAt_drewN

set_option maxRecDepth 100000 in
set_option maxHeartbeats 4000000 in
theorem lcodes_any (s : Sg) (A : Option Addr) (n c : Nat) (l : List UInt8) (w : World) (hs : SgOk w w.heap.size s) (hn : l.length = n) (hr : Rd w w.heap.size A (l.map B)) (hc : n ≤ c) (hm : c ≤ maxLen) :
    Calls Try.prog 11 #[s.val, .slice A n c] w fun e w' => e = .returned (.bool true) ∧ Below w.heap.size w w' := by
  obtain ⟨w1, hw1⟩ : ∃ w1, w1 = w.alloc (.cells s.cells 43) := ⟨_, rfl⟩
  have hbw : Below w.heap.size w w1 := by rw [hw1]; exact (Below.refl _ _).alloc (Nat.le_refl _) _
  have HBs : Hid (Blk w1 w.heap.size 43 s.cells) := by unfold Hid; rw [hw1]; exact Blk.new w _ _
  have hlt1 : w.heap.size < w1.heap.size := HBs.out.lt
  obtain ⟨p, hp⟩ : ∃ p, p = w.heap.size := ⟨_, rfl⟩
  have HSk : Hid (∀ V, Below w.heap.size w V → SgOk V V.heap.size s) := fun V hV => (hs.below hV).more hV.size
  obtain ⟨xs, okb, hx⟩ : ∃ xs okb, sencF s = (xs, okb) := ⟨_, _, rfl⟩
  have HE1 : Hid (∀ V, Below w.heap.size w V → Calls Try.prog 45 #[s.val] V (BytesPost V (xs, okb))) := fun V hV => by rw [← hx]; exact senc_any s V (HSk.out V hV)
  have HE2 : Hid (∀ V, Below w.heap.size w V → Calls Try.prog 46 #[s.val] V (BytesPost V (xs, okb))) := fun V hV => by rw [← hx]; exact rsenc_any s V (HSk.out V hV)
  obtain ⟨D, er, hD⟩ : ∃ D er, sdecF l = (D, er) := ⟨_, _, rfl⟩
  have HD1 : Hid (∀ V, Below w.heap.size w V → Calls Try.prog 47 #[.slice A n c] V (SgErrPost V (D, er))) := fun V hV => by rw [← hD]; exact sdec_any A n c l V hn ((hr.below hV).more hV.size) hc hm
  have HD2 : Hid (∀ V, Below w.heap.size w V → Calls Try.prog 48 #[.slice A n c] V (SgErrPost V (D, er))) := fun V hV => by rw [← hD]; exact rsdec_any A n c l V hn ((hr.below hV).more hV.size) hc hm
  have HAw := Lib.hid awake8_any
  have HX : Hid (okb = true → EncOk s ∧ xs = sencB s) := fun h => by
    unfold sencF at hx
    by_cases he : EncOk s
    · rw [if_pos he] at hx; cases hx; exact ⟨he, rfl⟩
    · rw [if_neg he] at hx; cases hx; cases h
  clear hx hD hs hr hn hc hm
  go_enter Try.func11, Try.ntmps11
  go_upto_region 1 with fail
  rw [← hw1, ← hp]
  rw [← hp] at HBs
  have hpw : p < w1.heap.size := by omega
  clear hw1 hp
  have x1 : rowAt w1 p 0 23 = some s.cells := HBs.out.row 23 s.size_cells
  go_upto_region 2 with (go_at_call 45; refine (HE1.out _ hbw).mono ?_; rintro en w2 ⟨A2, c2, rfl, hr2, hc2, hm2, hb2⟩)
  try dsimp only at hr2 hc2
  have hbw2 := hbw.trans (hb2.mono hbw.size)
  have x2 : rowAt w2 p 0 23 = some s.cells := rowAt_below x1 hb2 hpw
  have HR2 := Lib.hid hr2
  have hpw2 : p < w2.heap.size := Nat.lt_of_lt_of_le hpw hb2.size
  clear hr2 x1 hpw hbw hb2
  try go_frame
  go_upto_region 3 with (go_at_call 46; refine (HE2.out _ hbw2).mono ?_; rintro en w3 ⟨A3, c3, rfl, hr3, hc3, hm3, hb3⟩)
  try dsimp only at hr3 hc3
  have hbw3 := hbw2.trans (hb3.mono hbw2.size)
  have HR3 := Lib.hid hr3
  have HR32 := Lib.hid ((HR2.out.below hb3).more hb3.size)
  have x3 : rowAt w3 p 0 23 = some s.cells := rowAt_below x2 hb3 hpw2
  have hpw3 : p < w3.heap.size := Nat.lt_of_lt_of_le hpw2 hb3.size
  clear hr3 x2 hpw2 hbw2 hb3 HR2
  try go_frame
  go_upto_region 4 with (first
    | (go_at_call 47; refine (HD1.out _ hbw3).mono ?_; rintro en w4 ⟨t4, rfl, hv4, hk4, hcap4, hb4⟩)
    | (refine wpList_new_sg rfl (.tmp 9) (.tmp 28) rfl t4 rfl rfl ?_; intro w5 hB5 hb5))
  obtain ⟨q, hq⟩ : ∃ q, q = w4.heap.size := ⟨_, rfl⟩
  have hb45 : Below w3.heap.size w3 w5 := hb4.trans (hb5.mono hb4.size)
  have hbw5 := hbw3.trans (hb45.mono hbw3.size)
  have HB5 := Lib.hid hB5
  have HK5 : Hid (SgOk w5 w5.heap.size t4) := (hk4.below hb5).more hb5.size
  have HR52 := Lib.hid ((HR32.out.below hb45).more hb45.size)
  have HR53 := Lib.hid ((HR3.out.below hb45).more hb45.size)
  have x5 : rowAt w5 p 0 23 = some s.cells := rowAt_below x3 hb45 hpw3
  have hpw5 : p < w5.heap.size := Nat.lt_of_lt_of_le hpw3 hb45.size
  have hq5 := hB5.lt
  rw [← hq] at HB5 hq5 ⊢
  clear hB5 hb5 hb4 hb45 hk4 hcap4 HR32 HR3 x3 hpw3 hbw3 hq
  try go_frame
  go_upto_region 5 with (first
    | (go_at_call 48; refine (HD2.out _ hbw5).mono ?_; rintro en w6 ⟨t6, rfl, hv6, hk6, hcap6, hb6⟩)
    | (refine wpList_new_sg rfl (.tmp 11) (.tmp 33) rfl t6 rfl rfl ?_; intro w7 hB7 hb7))
  obtain ⟨q2, hq2⟩ : ∃ q2, q2 = w6.heap.size := ⟨_, rfl⟩
  have hb57 : Below w5.heap.size w5 w7 := hb6.trans (hb7.mono hb6.size)
  have hbw7 := hbw5.trans (hb57.mono hbw5.size)
  have HB7 := Lib.hid hB7
  have HK7 : Hid (SgOk w7 w7.heap.size t6) := (hk6.below hb7).more hb7.size
  have HK57 : Hid (SgOk w7 w7.heap.size t4) := (HK5.out.below hb57).more hb57.size
  have HR72 := Lib.hid ((HR52.out.below hb57).more hb57.size)
  have hr73 := (HR53.out.below hb57).more hb57.size
  have x7 : rowAt w7 p 0 23 = some s.cells := rowAt_below x5 hb57 hpw5
  have y7 : rowAt w7 q 0 23 = some t4.cells := (HB5.out.below hb57 hq5).row 23 t4.size_cells
  have hpw7 : p < w7.heap.size := Nat.lt_of_lt_of_le hpw5 hb57.size
  rw [← hq2] at HB7 ⊢
  have z7 : rowAt w7 q2 0 23 = some t6.cells := HB7.out.row 23 t6.size_cells
  have HSm : Hid (Calls Try.prog 33 #[t4.val, t6.val] w7 (BoolPost w7 true)) := by
    have h := same8_any t4 t6 w7 HK57.out HK7.out
    rwa [decide_eq_true (hv4.trans hv6.symm)] at h
  have cv1 := conv_str w7 w7.heap.size A2 c2 xs HR72.out
  have cv2 := conv_str w7 w7.heap.size A3 c3 xs hr73
  generalize (⟨xs.toArray⟩ : ByteArray) = st at cv1 cv2
  clear hB7 hb7 hb6 hb57 hk6 hcap6 HR52 HR53 hr73 x5 hpw5 hbw5 hq2 HK5 HK7 HK57 HB5 HB7 hv4 hv6 hq5
  try go_frame
  cases okb with
  | true =>
    go_upto_region 7 with (go_at_call 33; refine HSm.out.mono ?_; rintro en w8 ⟨rfl, hb8⟩)
    obtain ⟨he, hxe⟩ := HX.out (by first | rfl | trivial)
    have hxl : xs.length = 393 := by rw [hxe]; unfold sencB; rw [List.length_append, encB_length, he.2]
    have hbw8 := hbw7.trans (hb8.mono hbw7.size)
    have hdec : Hid (Calls Try.prog 47 #[.slice A2 393 c2] w8 (SgErrPost w8 (s.vs, 0))) := by
      have h := sdec_any A2 393 c2 xs w8 hxl ((HR72.out.below hb8).more hb8.size) (by omega) hm2
      rw [hxe, sdecF_sencB s he] at h
      exact h
    have x8 : rowAt w8 p 0 23 = some s.cells := rowAt_below x7 hb8 hpw7
    have hpw8 : p < w8.heap.size := Nat.lt_of_lt_of_le hpw7 hb8.size
    rw [hxl]
    clear cv1 cv2 hxe hxl he x7 y7 z7 hpw7 hc2 hc3 HSm HR72
    clear hb8
    try go_frame
    go_upto_region 9 with (first
      | (go_at_call 47; refine hdec.out.mono ?_; rintro en w9 ⟨t9, rfl, hv9, hk9, hcap9, hb9⟩)
      | (refine wpList_new_sg rfl (.tmp 13) (.tmp 60) rfl t9 rfl rfl ?_; intro w10 hB10 hb10))
    have hb810 : Below w8.heap.size w8 w10 := hb9.trans (hb10.mono hb9.size)
    have hbw10 := hbw8.trans (hb810.mono hbw8.size)
    have x10 : rowAt w10 p 0 23 = some s.cells := rowAt_below x8 hb810 hpw8
    obtain ⟨q3, hq3⟩ : ∃ q3, q3 = w9.heap.size := ⟨_, rfl⟩
    rw [← hq3] at hB10 ⊢
    have y10 : rowAt w10 q3 0 23 = some t9.cells := hB10.row 23 t9.size_cells
    have HSm2 : Hid (Calls Try.prog 33 #[t9.val, s.val] w10 (BoolPost w10 true)) := by
      have h := same8_any t9 s w10 ((hk9.below hb10).more hb10.size) (HSk.out w10 hbw10)
      rwa [decide_eq_true hv9] at h
    clear hB10 hb10 hb9 hb810 hk9 hcap9 x8 hpw8 hbw8 hq3 hv9
    try go_frame
    go_wp2_with (first
      | (go_at_call 33; refine HSm2.out.mono ?_; rintro en w11 ⟨rfl, hb11⟩)
      | (go_at_call 34; refine (HAw.out _).mono ?_; rintro en w12 ⟨rfl, hb12⟩))
    go_ret
    exact ⟨rfl, (hbw10.trans (hb11.mono hbw10.size)).trans (hb12.mono (Nat.le_trans hbw10.size hb11.size))⟩
  | false =>
    go_upto_region 7 with (go_at_call 33; refine HSm.out.mono ?_; rintro en w8 ⟨rfl, hb8⟩)
    go_wp2_with (go_at_call 34; refine (HAw.out _).mono ?_; rintro en w9 ⟨rfl, hb9⟩)
    go_ret
    exact ⟨rfl, (hbw7.trans (hb8.mono hbw7.size)).trans (hb9.mono (Nat.le_trans hbw7.size hb8.size))⟩
end Go.Proofs.Ythmecidpjlaonaa
