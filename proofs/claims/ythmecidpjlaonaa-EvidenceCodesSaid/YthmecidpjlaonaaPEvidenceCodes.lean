/-
  The closed facts of the row of evidenceCodes, one by one. No condition.
  The law EvidenceCodes returns true and changes nothing that was there. Condition: its arguments lie in memory below the call.
  For every pair of signed votes and all bytes, Encode and Decode are as documented, and what is encoded is decoded again: the law EvidenceCodes returns true. No condition.
-/
import Derived.Test.YthmecidpjlaonaaFactA
import Derived.Test.YthmecidpjlaonaaFactB
import Derived.Test.YthmecidpjlaonaaFactC
import Derived.Test.YthmecidpjlaonaaFactD
import Derived.Test.YthmecidpjlaonaaGPFind
import Derived.Test.YthmecidpjlaonaaGOpen2
import Derived.ShutString
import Derived.ChangeOld
namespace Go.Proofs.Ythmecidpjlaonaa.evidenceCodes
theorem j1 : (Rows.evidenceCodesRow.wf (OpenSpec.ofChange Rows.evidenceCodesSpec)) = true := by kernel_rfl
theorem j2 : (laidOutB Try.prog) = true := fact2
theorem j3 : (mapsRowed Try.prog) = true := fact3
theorem j4 : (Try.f16.params.all (Try.prog.readableRec ·)) = true := by kernel_rfl
theorem j5 : (namedTie Try.prog Rows.evidenceCodesRow.named Rows.evidenceCodesSpec.vars) = true := by kernel_rfl
theorem j6 : ((Rows.evidenceCodesRow.stops == [])) = true := by kernel_rfl
theorem j7 : ((Try.prog.stops == [])) = true := by kernel_rfl
theorem j8 : ((Rows.evidenceCodesRow.knobs == [])) = true := by kernel_rfl
theorem j9 : ((Try.prog.stopKnobs == [])) = true := by kernel_rfl
theorem j10 : ((Rows.evidenceCodesRow.inPlace == Try.prog.inPlace 16)) = true := by kernel_rfl
theorem j11 : ((Rows.evidenceCodesRow.unfollowed == Try.prog.unfollowed 16)) = true := by kernel_rfl
theorem j12 : ((Rows.evidenceCodesRow.recurses == Try.prog.recurses 16)) = true := by kernel_rfl
theorem j13 : ((Rows.evidenceCodesRow.named == Try.prog.varsNamed 16)) = true := by kernel_rfl
theorem j14 : ((Rows.evidenceCodesRow.maps == (Try.f16.params.toList ++ Rows.evidenceCodesSpec.plain.varTypes Try.prog).any (Try.prog.mapsRec ·))) = true := by kernel_rfl
theorem j15 : ((Rows.evidenceCodesRow.ifaces == (Try.f16.params.toList ++ Rows.evidenceCodesSpec.plain.varTypes Try.prog).any (Try.prog.ifacesRec ·))) = true := by kernel_rfl
theorem j16 : ((Rows.evidenceCodesRow.mapsOut == Try.prog.mapsAmong Try.f16.resultTypes.toList)) = true := by kernel_rfl
theorem j17 : ((Rows.evidenceCodesRow.loops == (Try.f16.params.toList ++ Rows.evidenceCodesSpec.plain.varTypes Try.prog).any (Try.prog.loopsFrom ·))) = true := by kernel_rfl
theorem j18 : ((Rows.evidenceCodesRow.wideKeys == (Try.f16.params.toList ++ Rows.evidenceCodesSpec.plain.varTypes Try.prog ++ Try.f16.resultTypes.toList).any (Try.prog.wideKeysFrom ·))) = true := by kernel_rfl
theorem j19 : (Rows.evidenceCodesSpec.vars.all (Try.prog.varReadable ·)) = true := by kernel_rfl
theorem j20 : (Try.f16.resultTypes.all (fun t => Try.prog.readableRec t && decide (t < Try.prog.types.size))) = true := by kernel_rfl
theorem j21 : ((Rows.evidenceCodesRow.ifacesOut == Try.f16.resultTypes.toList.any (Try.prog.ifacesRec ·))) = true := by kernel_rfl
theorem j22 : ((Rows.evidenceCodesRow.loopsOut == Try.f16.resultTypes.toList.any (Try.prog.loopsFrom ·))) = true := by kernel_rfl
theorem j23 : ((Rows.evidenceCodesRow.plainKeys == Try.prog.plainKeys)) = true := by kernel_rfl
theorem j24 : (Rows.evidenceCodesRow.shortTexts.isNone) = true := by kernel_rfl
theorem j25 : (Try.prog.stopsHeard) = true := fact25
theorem j26 : (Try.prog.mayEnter) = true := fact26
theorem j27 : ((Rows.evidenceCodesRow.lifted == Try.prog.liftsFinal)) = true := fact27
theorem j28 : ((Try.prog.make == some Rows.evidenceCodesRow.make)) = true := fact28
theorem j29 : ((Rows.evidenceCodesRow.kinds == (if Rows.evidenceCodesRow.domain.isEmpty then [] else Try.f16.params.toList.map fun t => match Try.prog.underlying t with | some (.int k) => some k | _ => none))) = true := by kernel_rfl
theorem j30 : ((Rows.evidenceCodesRow.pinned == Rows.evidenceCodesRow.pinnedBy)) = true := by kernel_rfl
theorem j31 : ((Rows.evidenceCodesRow.veiled == (Try.f16.params.toList ++ Rows.evidenceCodesSpec.plain.varTypes Try.prog ++ Try.f16.resultTypes.toList).any (Try.prog.veiledRec ·))) = true := by kernel_rfl
theorem j32 : (Rows.evidenceCodesRow.veiledFits Try.prog Try.f16.params.toList (Try.f16.params.toList ++ Rows.evidenceCodesSpec.plain.varTypes Try.prog ++ Try.f16.resultTypes.toList)) = true := by kernel_rfl
set_option maxRecDepth 100000 in
theorem closed : joinedFacts Try.prog 16 Try.f16 Rows.evidenceCodesSpec Rows.evidenceCodesRow = true := by
  unfold joinedFacts
  exact and_t (and_t (and_t (and_t (and_t (and_t (and_t (and_t (and_t (and_t (and_t (and_t (and_t (and_t (and_t (and_t (and_t (and_t (and_t (and_t (and_t (and_t (and_t (and_t (and_t (and_t (and_t (and_t (and_t (and_t (and_t (j1) j2) j3) j4) j5) j6) j7) j8) j9) j10) j11) j12) j13) j14) j15) j16) j17) j18) j19) j20) j21) j22) j23) j24) j25) j26) j27) j28) j29) j30) j31) j32
end Go.Proofs.Ythmecidpjlaonaa.evidenceCodes
namespace Go.Proofs.Ythmecidpjlaonaa
open Go.RowKit
attribute [local go_sem ↓] Go.wp_at_zero Go.wp_at_succ loadNm loadVt loadSg loadEv
attribute [local go_sem] runNm runVt runSg runEv pickRow_some rowAt_drew rowAt_drewN

set_option maxRecDepth 100000 in
set_option maxHeartbeats 4000000 in
theorem lecodes_any (s : Ev) (A : Option Addr) (n c : Nat) (l : List UInt8) (w : World) (hs : EvOk w w.heap.size s) (hn : l.length = n) (hr : Rd w w.heap.size A (l.map B)) (hc : n ≤ c) (hm : c ≤ maxLen) :
    Calls Try.prog 16 #[s.val, .slice A n c] w fun e w' => e = .returned (.bool true) ∧ Below w.heap.size w w' := by
  obtain ⟨w1, hw1⟩ : ∃ w1, w1 = w.alloc (.cells s.cells 45) := ⟨_, rfl⟩
  have hbw : Below w.heap.size w w1 := by rw [hw1]; exact (Below.refl _ _).alloc (Nat.le_refl _) _
  have HBs : Hid (Blk w1 w.heap.size 45 s.cells) := by unfold Hid; rw [hw1]; exact Blk.new w _ _
  have hlt1 : w.heap.size < w1.heap.size := HBs.out.lt
  obtain ⟨p, hp⟩ : ∃ p, p = w.heap.size := ⟨_, rfl⟩
  have HSk : Hid (∀ V, Below w.heap.size w V → EvOk V V.heap.size s) := fun V hV => (hs.below hV).more hV.size
  obtain ⟨xs, okb, hx⟩ : ∃ xs okb, eencF s = (xs, okb) := ⟨_, _, rfl⟩
  have HE1 : Hid (∀ V, Below w.heap.size w V → Calls Try.prog 60 #[s.val] V (BytesPost V (xs, okb))) := fun V hV => by rw [← hx]; exact eenc_any s V (HSk.out V hV)
  have HE2 : Hid (∀ V, Below w.heap.size w V → Calls Try.prog 61 #[s.val] V (BytesPost V (xs, okb))) := fun V hV => by rw [← hx]; exact reenc_any s V (HSk.out V hV)
  obtain ⟨D, er, hD⟩ : ∃ D er, edecF l = (D, er) := ⟨_, _, rfl⟩
  have HD1 : Hid (∀ V, Below w.heap.size w V → Calls Try.prog 62 #[.slice A n c] V (EvErrPost V (D, er))) := fun V hV => by rw [← hD]; exact edec_any A n c l V hn ((hr.below hV).more hV.size) hc hm
  have HD2 : Hid (∀ V, Below w.heap.size w V → Calls Try.prog 26 #[.slice A n c] V (EvErrPost V (D, er))) := fun V hV => by rw [← hD]; exact redec_any A n c l V hn ((hr.below hV).more hV.size) hc hm
  have HAw := Lib.hid awake9_any
  have HX : Hid (okb = true → EEncOk s ∧ xs = eencB s) := fun h => by
    unfold eencF at hx
    by_cases he : EEncOk s
    · rw [if_pos he] at hx; cases hx; exact ⟨he, rfl⟩
    · rw [if_neg he] at hx; cases hx; cases h
  clear hx hD hs hr hn hc hm
  go_enter Try.func16, Try.ntmps16
  go_upto_region 1 with fail
  rw [← hw1, ← hp]
  rw [← hp] at HBs
  have hpw : p < w1.heap.size := by omega
  clear hw1 hp
  have x1 : rowAt w1 p 0 46 = some s.cells := HBs.out.row 46 s.size_cells
  go_upto_region 2 with (go_at_call 60; refine (HE1.out _ hbw).mono ?_; rintro en w2 ⟨A2, c2, rfl, hr2, hc2, hm2, hb2⟩)
  try dsimp only at hr2 hc2
  have hbw2 := hbw.trans (hb2.mono hbw.size)
  have hbs2 : Below w1.heap.size w1 w2 := hb2
  have x2 : rowAt w2 p 0 46 = some s.cells := rowAt_below x1 hb2 hpw
  have HR2 := Lib.hid hr2
  have hpw2 : p < w2.heap.size := Nat.lt_of_lt_of_le hpw hb2.size
  clear hr2 x1 hpw hbw hb2
  try go_frame
  go_upto_region 3 with (go_at_call 61; refine (HE2.out _ hbw2).mono ?_; rintro en w3 ⟨A3, c3, rfl, hr3, hc3, hm3, hb3⟩)
  try dsimp only at hr3 hc3
  have hbw3 := hbw2.trans (hb3.mono hbw2.size)
  have hbs3 := hbs2.trans (hb3.mono hbs2.size)
  have HR3 := Lib.hid hr3
  have HR32 := Lib.hid ((HR2.out.below hb3).more hb3.size)
  have x3 : rowAt w3 p 0 46 = some s.cells := rowAt_below x2 hb3 hpw2
  have hpw3 : p < w3.heap.size := Nat.lt_of_lt_of_le hpw2 hb3.size
  clear hr3 x2 hpw2 hbw2 hb3 HR2
  try go_frame
  go_upto_region 4 with (first
    | (go_at_call 62; refine (HD1.out _ hbw3).mono ?_; rintro en w4 ⟨t4, rfl, hv4, hk4, hb4⟩)
    | (refine wpList_new_ev rfl (.tmp 9) (.tmp 28) rfl t4 rfl rfl ?_; intro w5 hB5 hb5))
  obtain ⟨q, hq⟩ : ∃ q, q = w4.heap.size := ⟨_, rfl⟩
  have hb45 : Below w3.heap.size w3 w5 := hb4.trans (hb5.mono hb4.size)
  have hbw5 := hbw3.trans (hb45.mono hbw3.size)
  have hbs5 := hbs3.trans (hb45.mono hbs3.size)
  have HB5 := Lib.hid hB5
  have HK5 : Hid (EvOk w5 w5.heap.size t4) := (hk4.below hb5).more hb5.size
  have HR52 := Lib.hid ((HR32.out.below hb45).more hb45.size)
  have HR53 := Lib.hid ((HR3.out.below hb45).more hb45.size)
  have x5 : rowAt w5 p 0 46 = some s.cells := rowAt_below x3 hb45 hpw3
  have hpw5 : p < w5.heap.size := Nat.lt_of_lt_of_le hpw3 hb45.size
  have hq5 := hB5.lt
  rw [← hq] at HB5 hq5 ⊢
  clear hB5 hb5 hb4 hb45 hk4 HR32 HR3 x3 hpw3 hbw3 hq
  try go_frame
  go_upto_region 5 with (first
    | (go_at_call 26; refine (HD2.out _ hbw5).mono ?_; rintro en w6 ⟨t6, rfl, hv6, hk6, hb6⟩)
    | (refine wpList_new_ev rfl (.tmp 11) (.tmp 33) rfl t6 rfl rfl ?_; intro w7 hB7 hb7))
  obtain ⟨q2, hq2⟩ : ∃ q2, q2 = w6.heap.size := ⟨_, rfl⟩
  have hb57 : Below w5.heap.size w5 w7 := hb6.trans (hb7.mono hb6.size)
  have hbw7 := hbw5.trans (hb57.mono hbw5.size)
  have hbs7 := hbs5.trans (hb57.mono hbs5.size)
  have HB7 := Lib.hid hB7
  have HK7 : Hid (EvOk w7 w7.heap.size t6) := (hk6.below hb7).more hb7.size
  have HK57 : Hid (EvOk w7 w7.heap.size t4) := (HK5.out.below hb57).more hb57.size
  have HR72 := Lib.hid ((HR52.out.below hb57).more hb57.size)
  have hr73 := (HR53.out.below hb57).more hb57.size
  have x7 : rowAt w7 p 0 46 = some s.cells := rowAt_below x5 hb57 hpw5
  have ya7 : rowAt w7 q 0 23 = some t4.a.cells := t4.row_a (HB5.out.below hb57 hq5)
  have yb7 : rowAt w7 q 23 23 = some t4.b.cells := t4.row_b (HB5.out.below hb57 hq5)
  have hq7 : q < w7.heap.size := Nat.lt_of_lt_of_le hq5 hb57.size
  have hpw7 : p < w7.heap.size := Nat.lt_of_lt_of_le hpw5 hb57.size
  rw [← hq2] at HB7 ⊢
  have za7 : rowAt w7 q2 0 23 = some t6.a.cells := t6.row_a HB7.out
  have zb7 : rowAt w7 q2 23 23 = some t6.b.cells := t6.row_b HB7.out
  have hq27 : q2 < w7.heap.size := HB7.out.lt
  have hvv : t4.vs = t6.vs := hv4.trans hv6.symm
  have HSmA : Hid (Calls Try.prog 57 #[t4.a.val, t6.a.val] w7 (BoolPost w7 true)) := by
    have h := same9_any t4.a t6.a w7 HK57.out.1 HK7.out.1
    rwa [decide_eq_true (congrArg Prod.fst hvv)] at h
  have HSmB : Hid (∀ V, Below w7.heap.size w7 V → Calls Try.prog 57 #[t4.b.val, t6.b.val] V (BoolPost V true)) := fun V hV => by
    have h := same9_any t4.b t6.b V ((HK57.out.2.below hV).more hV.size) ((HK7.out.2.below hV).more hV.size)
    rwa [decide_eq_true (congrArg Prod.snd hvv)] at h
  have cv1 := conv_str w7 w7.heap.size A2 c2 xs HR72.out
  have cv2 := conv_str w7 w7.heap.size A3 c3 xs hr73
  generalize (⟨xs.toArray⟩ : ByteArray) = st at cv1 cv2
  clear hB7 hb7 hb6 hb57 hk6 HR52 HR53 hr73 x5 hpw5 hbw5 hq2 HK5 HK7 HK57 HB5 HB7 hv4 hv6 hvv hq5
  try go_frame
  cases okb with
  | true =>
    go_upto_region 7 with (first
      | (go_at_call 57; refine HSmA.out.mono ?_; rintro en w8a ⟨rfl, hb8a⟩; have yb8 := rowAt_below yb7 hb8a hq7; have zb8 := rowAt_below zb7 hb8a hq27; clear HSmA)
      | (go_at_call 57; refine (HSmB.out _ hb8a).mono ?_; rintro en w8 ⟨rfl, hb8b⟩; have hb8 := hb8a.trans (hb8b.mono hb8a.size); clear hb8b hb8a yb8 zb8))
    obtain ⟨he, hxe⟩ := HX.out (by first | rfl | trivial)
    have hxl : xs.length = 786 := by rw [hxe]; unfold eencB; rw [List.length_append, sencB_length he.1, sencB_length he.2]
    have hbw8 := hbw7.trans (hb8.mono hbw7.size)
    have hdec : Hid (Calls Try.prog 62 #[.slice A2 786 c2] w8 (EvErrPost w8 (s.vs, 0))) := by
      have h := edec_any A2 786 c2 xs w8 hxl ((HR72.out.below hb8).more hb8.size) (by omega) hm2
      rw [hxe, edecF_eencB s he] at h
      exact h
    have x8 : rowAt w8 p 0 46 = some s.cells := rowAt_below x7 hb8 hpw7
    have hbs8 := hbs7.trans (hb8.mono hbs7.size)
    have hpw8 : p < w8.heap.size := Nat.lt_of_lt_of_le hpw7 hb8.size
    rw [hxl]
    clear cv1 cv2 hxe hxl he x7 ya7 yb7 za7 zb7 hpw7 hc2 hc3 HSmB HR72
    clear hb8
    try go_frame
    go_upto_region 9 with (first
      | (go_at_call 62; refine hdec.out.mono ?_; rintro en w9 ⟨t9, rfl, hv9, hk9, hb9⟩)
      | (refine wpList_new_ev rfl (.tmp 13) (.tmp 70) rfl t9 rfl rfl ?_; intro w10 hB10 hb10))
    have hb810 : Below w8.heap.size w8 w10 := hb9.trans (hb10.mono hb9.size)
    have hbw10 := hbw8.trans (hb810.mono hbw8.size)
    have x10 : rowAt w10 p 0 46 = some s.cells := rowAt_below x8 hb810 hpw8
    obtain ⟨q3, hq3⟩ : ∃ q3, q3 = w9.heap.size := ⟨_, rfl⟩
    rw [← hq3] at hB10 ⊢
    have ya10 : rowAt w10 q3 0 23 = some t9.a.cells := t9.row_a hB10
    have yb10 : rowAt w10 q3 23 23 = some t9.b.cells := t9.row_b hB10
    have hq310 : q3 < w10.heap.size := hB10.lt
    have hBp : Blk w10 p 45 s.cells := ((HBs.out.below hbs8 HBs.out.lt).below hb810 hpw8)
    have xa10 : rowAt w10 p 0 23 = some s.a.cells := s.row_a hBp
    have xb10 : rowAt w10 p 23 23 = some s.b.cells := s.row_b hBp
    have hp10 : p < w10.heap.size := hBp.lt
    have hk10 : EvOk w10 w10.heap.size t9 := (hk9.below hb10).more hb10.size
    have HSm2A : Hid (Calls Try.prog 57 #[t9.a.val, s.a.val] w10 (BoolPost w10 true)) := by
      have h := same9_any t9.a s.a w10 hk10.1 (HSk.out w10 hbw10).1
      rwa [decide_eq_true (congrArg Prod.fst hv9)] at h
    have HSm2B : Hid (∀ V, Below w10.heap.size w10 V → Calls Try.prog 57 #[t9.b.val, s.b.val] V (BoolPost V true)) := fun V hV => by
      have h := same9_any t9.b s.b V ((hk10.2.below hV).more hV.size) (((HSk.out w10 hbw10).2.below hV).more hV.size)
      rwa [decide_eq_true (congrArg Prod.snd hv9)] at h
    clear hBp hk10 x10
    clear hB10 hb10 hb9 hb810 hk9 x8 hpw8 hbw8 hq3 hv9
    try go_frame
    go_wp2_with (first
      | (go_at_call 57; refine HSm2A.out.mono ?_; rintro en w11a ⟨rfl, hb11a⟩; have yb11 := rowAt_below yb10 hb11a hq310; have xb11 := rowAt_below xb10 hb11a hp10; clear HSm2A)
      | (go_at_call 57; refine (HSm2B.out _ hb11a).mono ?_; rintro en w11 ⟨rfl, hb11b⟩; have hb11 := hb11a.trans (hb11b.mono hb11a.size); clear hb11b)
      | (go_at_call 53; refine (HAw.out _).mono ?_; rintro en w12 ⟨rfl, hb12⟩))
    go_ret
    exact ⟨rfl, (hbw10.trans (hb11.mono hbw10.size)).trans (hb12.mono (Nat.le_trans hbw10.size hb11.size))⟩
  | false =>
    go_upto_region 7 with (first
      | (go_at_call 57; refine HSmA.out.mono ?_; rintro en w8a ⟨rfl, hb8a⟩; have yb8 := rowAt_below yb7 hb8a hq7; have zb8 := rowAt_below zb7 hb8a hq27; clear HSmA)
      | (go_at_call 57; refine (HSmB.out _ hb8a).mono ?_; rintro en w8 ⟨rfl, hb8b⟩; have hb8 := hb8a.trans (hb8b.mono hb8a.size); clear hb8b hb8a yb8 zb8))
    go_wp2_with (go_at_call 53; refine (HAw.out _).mono ?_; rintro en w9 ⟨rfl, hb9⟩)
    go_ret
    exact ⟨rfl, (hbw7.trans (hb8.mono hbw7.size)).trans (hb9.mono (Nat.le_trans hbw7.size hb8.size))⟩
end Go.Proofs.Ythmecidpjlaonaa
namespace Go.Proofs.Ythmecidpjlaonaa.evidenceCodes
open Go.ChangeShapes Go.WideShapes Go.ChangeAt Go.RowKit

theorem own : ownKnob Try.prog.godebug = none := by kernel_rfl
theorem laidOut : laidOutB Try.prog = true := by kernel_rfl

set_option maxRecDepth 100000 in
set_option maxHeartbeats 1000000 in
theorem lifted (os : Os) (started : os.Started) (H : Type) (enc : TypeId × Value → H) :
    ReturnsInHanded {} Try.checked os 16 .any (Rows.evidenceCodesSpec.pre6 enc Try.prog Try.f16 Rows.evidenceCodesRow.domain false) (Rows.evidenceCodesSpec.post enc Try.prog Try.f16 false true false false) := by
  refine returnsInHanded_of_change_sized (C := Try.checked) own started (by kernel_rfl) Try.func16
    (ChangeSpec.witness6 (enc := enc) (C := Try.checked) false ⟨#[], #[.agg zeroEc, .slice none 0 0], []⟩ 8 (by kernel_rfl) (by kernel_rfl) (by kernel_rfl) (by kernel_rfl)) ?_
  intro W base args ds gs before hval0 hW hcnd hsz0 _
  have hval : ∀ (j : Nat) t v, Try.f16.params[j]? = some t → args[j]? = some v → Value.okWide Try.prog W .any base t v := hval0
  have hW' := hW
  obtain ⟨p, q, hA0, hV, rfl, hfz, hnd⟩ := hW
  have hA : DataW.TrodAll enc Try.prog W 0 (fun _ => true) true Try.f16.params.toList args.toList ds p := hA0
  have hsz : (DataW.weightsEach Try.prog (Try.f16.params.toList ++ Rows.evidenceCodesSpec.plain.varTypes Try.prog) (ds ++ gs)).all (· ≤ reachBytes) = true := hsz0
  rw [Try.params16] at hA hval hsz
  obtain ⟨v0, vs0, d0, ds0, p0, q0, hargs, rfl, rfl, h0, r0⟩ := trodAll_cons hA
  obtain ⟨v1, vs1, d1, ds1, p1, q1, ha1, rfl, rfl, h1, r1⟩ := trodAll_cons r0
  subst ha1
  obtain ⟨rfl, rfl, rfl⟩ := trodAll_nil r1
  obtain rfl : args = #[v0, v1] := by cases args; simp_all
  obtain ⟨rfl, rfl⟩ := trodVars_none hV
  have hwt : ∀ k ∈ DataW.weightsEach Try.prog ([45, 23] ++ Rows.evidenceCodesSpec.plain.varTypes Try.prog) ([d0, d1] ++ []), k ≤ reachBytes := fun k hk => by simpa using List.all_eq_true.1 hsz k hk
  have k0 := h0
  have lt0 : ∀ x ∈ p0, x.block < W.heap.size := by obtain ⟨m, hm⟩ := k0; exact DataW.trod_lt m _ _ _ hm
  obtain ⟨s0, hv0, hok0⟩ : ∃ s : Ev, v0.cells.toList = s.cells.toList ∧ (SgOk W W.heap.size s.a ∧ SgCap s.a) ∧ (SgOk W W.heap.size s.b ∧ SgCap s.b) := by
    obtain ⟨fuel, hf⟩ := h0
    exact open_evidence2 hf (mem_weightsEach hwt (j := 0) (t := 45) rfl rfl)
  obtain ⟨cs0, hag0, _⟩ := okWide_struct Try.underlying45 (hval 0 45 v0 rfl rfl)
  obtain rfl := agg_of hag0 hv0
  clear hag0 hv0
  have k1 := h1
  have lt1 : ∀ x ∈ p1, x.block < W.heap.size := by obtain ⟨m, hm⟩ := k1; exact DataW.trod_lt m _ _ _ hm
  obtain ⟨A1, l1, cap1, hv1, hr1, hl1, hm1, hz1⟩ : ∃ (A : Option Addr) (l : List UInt8) (cap : Nat), v1.cells.toList = [.slice A l.length cap] ∧ Rd W W.heap.size A (l.map B) ∧ l.length ≤ cap ∧ cap ≤ maxLen ∧ l.length ≤ 140737488351232 := by
    obtain ⟨fuel, hf⟩ := h1
    exact open_bytes hf (mem_weightsEach hwt (j := 1) (t := 23) rfl rfl)
  obtain ⟨a1, len1, c1, rfl⟩ := okWide_slice Try.underlying23 (hval 1 23 v1 rfl rfl)
  simp [Value.cells] at hv1
  obtain ⟨rfl, rfl, rfl⟩ := hv1
  clear hA0 hval0
  refine (lecodes_any s0 a1 l1.length c1 l1 W ⟨hok0.1.1, hok0.2.1⟩ rfl hr1 hl1 hm1).mono fun e W' ⟨he, bel⟩ => ?_
  subst he
  exact ⟨_, rfl, _, _, _, [], _, [], hW', trodAll_mk1 (shut_bool Try.underlying4 _), (trodAll_cons_mk (Below.trod laidOut (by kernel_rfl) (of_decide_eq_true (by kernel_rfl)) k0 bel lt0) (trodAll_cons_mk (Below.trod laidOut (by kernel_rfl) (of_decide_eq_true (by kernel_rfl)) k1 bel lt1) trodAll_mk0)), rfl, bel.frame _, fun h => by cases h⟩

theorem over : Rows.evidenceCodesRow.holds Try.pinned (OpenSpec.ofChange Rows.evidenceCodesSpec) :=
  OpenClaim.holds_of_wide 16 Try.f16 rfl rfl rfl rfl rfl rfl rfl ⟨rfl, rfl, rfl, rfl, rfl⟩ rfl rfl rfl rfl rfl (by kernel_rfl) Try.func16 closed
    (of_decide_eq_true (by kernel_rfl)) (by unfold Func.isWrapper; first | (rw [if_pos (by decide +kernel)]; kernel_rfl) | (rw [if_neg (by decide +kernel)]; exact ⟨rfl, rfl⟩))
    (fun os started H enc _ => lifted os started H enc)

theorem proved : Rows.EvidenceCodesSaid := over
end Go.Proofs.Ythmecidpjlaonaa.evidenceCodes
