/-
  The closed facts of the row of signedVerifies, one by one. No condition.
  The law SignedVerifies returns true and changes nothing that was there. Condition: its arguments lie in memory below the call.
  The statement SignedVerifies holds: signed.Verify answers as the reference's Verify. No condition.
-/
import Derived.Test.YthmecidpjlaonaaGreatFactA
import Derived.Test.YthmecidpjlaonaaGreatFactB
import Derived.Test.YthmecidpjlaonaaGreatFactC
import Derived.Test.YthmecidpjlaonaaGreatFactD
import Derived.Test.YthmecidpjlaonaaGreatGRSg2
import Derived.Test.YthmecidpjlaonaaGreatGRPub
import Derived.Test.YthmecidpjlaonaaGreatGArr3
import Derived.Test.YthmecidpjlaonaaGreatGOpen2
import Derived.ShutString
import Derived.ChangeOld
namespace Go.Proofs.YthmecidpjlaonaaGreat.signedVerifies
theorem j1 : (Rows.signedVerifiesRow.wf (OpenSpec.ofChange Rows.signedVerifiesSpec)) = true := by kernel_rfl
theorem j2 : (laidOutB Tryz.prog) = true := fact2
theorem j3 : (mapsRowed Tryz.prog) = true := fact3
theorem j4 : (Tryz.f4.params.all (Tryz.prog.readableRec ·)) = true := by kernel_rfl
theorem j5 : (namedTie Tryz.prog Rows.signedVerifiesRow.named Rows.signedVerifiesSpec.vars) = true := by kernel_rfl
theorem j6 : ((Rows.signedVerifiesRow.stops == [])) = true := by kernel_rfl
theorem j7 : ((Tryz.prog.stops == [])) = true := by kernel_rfl
theorem j8 : ((Rows.signedVerifiesRow.knobs == [])) = true := by kernel_rfl
theorem j9 : ((Tryz.prog.stopKnobs == [])) = true := by kernel_rfl
theorem j10 : ((Rows.signedVerifiesRow.inPlace == Tryz.prog.inPlace 4)) = true := by kernel_rfl
theorem j11 : ((Rows.signedVerifiesRow.unfollowed == Tryz.prog.unfollowed 4)) = true := by kernel_rfl
theorem j12 : ((Rows.signedVerifiesRow.recurses == Tryz.prog.recurses 4)) = true := by kernel_rfl
theorem j13 : ((Rows.signedVerifiesRow.named == Tryz.prog.varsNamed 4)) = true := by kernel_rfl
theorem j14 : ((Rows.signedVerifiesRow.maps == (Tryz.f4.params.toList ++ Rows.signedVerifiesSpec.plain.varTypes Tryz.prog).any (Tryz.prog.mapsRec ·))) = true := by kernel_rfl
theorem j15 : ((Rows.signedVerifiesRow.ifaces == (Tryz.f4.params.toList ++ Rows.signedVerifiesSpec.plain.varTypes Tryz.prog).any (Tryz.prog.ifacesRec ·))) = true := by kernel_rfl
theorem j16 : ((Rows.signedVerifiesRow.mapsOut == Tryz.prog.mapsAmong Tryz.f4.resultTypes.toList)) = true := by kernel_rfl
theorem j17 : ((Rows.signedVerifiesRow.loops == (Tryz.f4.params.toList ++ Rows.signedVerifiesSpec.plain.varTypes Tryz.prog).any (Tryz.prog.loopsFrom ·))) = true := by kernel_rfl
theorem j18 : ((Rows.signedVerifiesRow.wideKeys == (Tryz.f4.params.toList ++ Rows.signedVerifiesSpec.plain.varTypes Tryz.prog ++ Tryz.f4.resultTypes.toList).any (Tryz.prog.wideKeysFrom ·))) = true := by kernel_rfl
theorem j19 : (Rows.signedVerifiesSpec.vars.all (Tryz.prog.varReadable ·)) = true := by kernel_rfl
theorem j20 : (Tryz.f4.resultTypes.all (fun t => Tryz.prog.readableRec t && decide (t < Tryz.prog.types.size))) = true := by kernel_rfl
theorem j21 : ((Rows.signedVerifiesRow.ifacesOut == Tryz.f4.resultTypes.toList.any (Tryz.prog.ifacesRec ·))) = true := by kernel_rfl
theorem j22 : ((Rows.signedVerifiesRow.loopsOut == Tryz.f4.resultTypes.toList.any (Tryz.prog.loopsFrom ·))) = true := by kernel_rfl
theorem j23 : ((Rows.signedVerifiesRow.plainKeys == Tryz.prog.plainKeys)) = true := by kernel_rfl
theorem j24 : (Rows.signedVerifiesRow.shortTexts.isNone) = true := by kernel_rfl
theorem j25 : (Tryz.prog.stopsHeard) = true := fact25
theorem j26 : (Tryz.prog.mayEnter) = true := fact26
theorem j27 : ((Rows.signedVerifiesRow.lifted == Tryz.prog.liftsFinal)) = true := fact27
theorem j28 : ((Tryz.prog.make == some Rows.signedVerifiesRow.make)) = true := fact28
theorem j29 : ((Rows.signedVerifiesRow.kinds == (if Rows.signedVerifiesRow.domain.isEmpty then [] else Tryz.f4.params.toList.map fun t => match Tryz.prog.underlying t with | some (.int k) => some k | _ => none))) = true := by kernel_rfl
theorem j30 : ((Rows.signedVerifiesRow.pinned == Rows.signedVerifiesRow.pinnedBy)) = true := by kernel_rfl
theorem j31 : ((Rows.signedVerifiesRow.veiled == (Tryz.f4.params.toList ++ Rows.signedVerifiesSpec.plain.varTypes Tryz.prog ++ Tryz.f4.resultTypes.toList).any (Tryz.prog.veiledRec ·))) = true := by kernel_rfl
theorem j32 : (Rows.signedVerifiesRow.veiledFits Tryz.prog Tryz.f4.params.toList (Tryz.f4.params.toList ++ Rows.signedVerifiesSpec.plain.varTypes Tryz.prog ++ Tryz.f4.resultTypes.toList)) = true := by kernel_rfl
set_option maxRecDepth 100000 in
theorem closed : joinedFacts Tryz.prog 4 Tryz.f4 Rows.signedVerifiesSpec Rows.signedVerifiesRow = true := by
  unfold joinedFacts
  exact and_t (and_t (and_t (and_t (and_t (and_t (and_t (and_t (and_t (and_t (and_t (and_t (and_t (and_t (and_t (and_t (and_t (and_t (and_t (and_t (and_t (and_t (and_t (and_t (and_t (and_t (and_t (and_t (and_t (and_t (and_t (j1) j2) j3) j4) j5) j6) j7) j8) j9) j10) j11) j12) j13) j14) j15) j16) j17) j18) j19) j20) j21) j22) j23) j24) j25) j26) j27) j28) j29) j30) j31) j32
end Go.Proofs.YthmecidpjlaonaaGreat.signedVerifies
namespace Go.Proofs.YthmecidpjlaonaaGreat
open Go.RowKit
attribute [local go_sem ↓] Go.wp_at_zero Go.wp_at_succ loadNm loadVt loadSg loadEv
attribute [local go_sem] runNm runVt runSg runEv pickRow_some rowAt_drew rowAt_drewN

theorem umod8 (a : Int) (n : Nat) (hn : 0 < n) : ∃ d : Nat, d < n ∧ (IntKind.u64.wrap a) % (n : Int) = (d : Int) ∧ (IntKind.u64.wrap a).tmod (n : Int) = (d : Int) := by
  have h0 : 0 ≤ IntKind.u64.wrap a := by rw [IntKind.wrap_u64]; omega
  obtain ⟨k, hk⟩ := Int.eq_ofNat_of_zero_le h0
  exact ⟨k % n, Nat.mod_lt _ hn, by rw [hk]; rfl, by rw [hk]; rfl⟩
theorem own_byte8 {w : World} {base e g n cap d : Nat} {bs : List UInt8} {x : UInt8} (h : w.ownsRow base e 1 (.slice (some ⟨g, 0, none⟩) n cap) n (bs.map B)) (hd : d < n) (hx : bs[d]? = some x) : w.cell? ⟨g, d, none⟩ = some (B x) := by
  have := h.cellAt d (by omega)
  rw [this, List.getElem?_map, hx]
  rfl
theorem own_ge8 {w : World} {base e size g n cap : Nat} {xs : List Value} (h : w.ownsRow base e size (.slice (some ⟨g, 0, none⟩) n cap) n xs) : base ≤ g := by
  rcases h.2 with ⟨hv, _⟩ | ⟨g', cap', cur, hv, h1, _⟩
  · cases hv
  · injection hv with a1
    injection a1 with a1
    injection a1 with a1
    subst a1
    exact h1
theorem xor8 (x y : UInt8) : bits .xor .u8 (x.toNat : Int) (y.toNat : Int) = ((x ^^^ y).toNat : Int) := by
  show IntKind.u8.wrap ((BitVec.ofInt 8 (x.toNat : Int) ^^^ BitVec.ofInt 8 (y.toNat : Int)).toNat : Int) = _
  have e : ∀ z : UInt8, BitVec.ofInt 8 (z.toNat : Int) = z.toBitVec := fun z => by rw [BitVec.ofInt_natCast]; simp [← UInt8.toNat_toBitVec]
  rw [e, e, ← UInt8.toBitVec_xor, UInt8.toNat_toBitVec]
  have := (x ^^^ y).toNat_lt
  generalize (x ^^^ y).toNat = k at *
  simp [IntKind.wrap, IntKind.bits, IntKind.signed]
  omega
def CntV (n : Nat) (w : World) (iv : Value) (wr : World) : Prop := ∃ i : Nat, iv = .int .i64 (i : Int) ∧ i ≤ n ∧ Below w.heap.size w wr

set_option maxRecDepth 100000 in
set_option maxHeartbeats 8000000 in
theorem lverif_bad (s key : Nm) (leaf : Int) (v x : Vt) (R : Option Addr) (nr cr : Nat) (raw : List UInt8) (pos : Int) (by_ : UInt8) (w : World) (hv : v.ok) (hx : x.ok) (hy : ¬ ValidP v) (hnr : raw.length = nr) (hcr : nr ≤ cr) (hcm : cr ≤ maxLen) (hR : Rd w w.heap.size R (raw.map B)) (hsm : raw.length ≤ 140737488351232) :
    Calls Tryz.prog 4 #[s.val, key.val, .int .i64 leaf, v.val, x.val, .slice R nr cr, .int .i64 pos, B by_] w fun e w' => e = .returned (.bool true) ∧ Below w.heap.size w w' := by
  obtain ⟨W, hW⟩ : ∃ W, W = (((w.alloc (.cells s.cells 29)).alloc (.cells key.cells 29)).alloc (.cells v.cells 31)).alloc (.cells x.cells 31) := ⟨_, rfl⟩
  have hbW : Below w.heap.size w W := by rw [hW]; exact ((((Below.refl _ _).alloc (Nat.le_refl _) _).alloc (by simp) _).alloc (by simp; omega) _).alloc (by simp; omega) _
  have hB0 : Blk W w.heap.size 29 s.cells := by rw [hW]; exact (((Blk.new w _ _).alloc _).alloc _).alloc _
  have hB1 : Blk W (w.heap.size + 1) 29 key.cells := by
    rw [hW]
    have := Blk.new (w.alloc (.cells s.cells 29)) 29 key.cells
    rw [show (w.alloc (.cells s.cells 29)).heap.size = w.heap.size + 1 from by simp] at this
    exact (this.alloc _).alloc _
  have hB2 : Blk W (w.heap.size + 2) 31 v.cells := by
    rw [hW]
    have := Blk.new ((w.alloc (.cells s.cells 29)).alloc (.cells key.cells 29)) 31 v.cells
    rw [show ((w.alloc (.cells s.cells 29)).alloc (.cells key.cells 29)).heap.size = w.heap.size + 2 from by simp] at this
    exact this.alloc _
  have hB3 : Blk W (w.heap.size + 3) 31 x.cells := by
    rw [hW]
    have := Blk.new (((w.alloc (.cells s.cells 29)).alloc (.cells key.cells 29)).alloc (.cells v.cells 31)) 31 x.cells
    rw [show (((w.alloc (.cells s.cells 29)).alloc (.cells key.cells 29)).alloc (.cells v.cells 31)).heap.size = w.heap.size + 3 from by simp] at this
    exact this
  obtain ⟨p0, hp0⟩ : ∃ p, p = w.heap.size := ⟨_, rfl⟩
  obtain ⟨p1, hp1⟩ : ∃ p, p = w.heap.size + 1 := ⟨_, rfl⟩
  obtain ⟨p2, hp2⟩ : ∃ p, p = w.heap.size + 2 := ⟨_, rfl⟩
  obtain ⟨p3, hp3⟩ : ∃ p, p = w.heap.size + 3 := ⟨_, rfl⟩
  rw [← hp0] at hB0
  rw [← hp1] at hB1
  rw [← hp2] at hB2
  rw [← hp3] at hB3
  have HRows : Hid (∀ U, Below W.heap.size W U → rowAt U p0 0 8 = some s.cells ∧ rowAt U p1 0 8 = some key.cells ∧ rowAt U p2 0 22 = some v.cells ∧ rowAt U p3 0 22 = some x.cells) := fun U hU => ⟨(hB0.below hU hB0.lt).row 8 rfl, (hB1.below hU hB1.lt).row 8 rfl, (hB2.below hU hB2.lt).row 22 rfl, (hB3.below hU hB3.lt).row 22 rfl⟩
  obtain ⟨r0, r1, r2, r3⟩ := HRows.out _ (Below.refl _ _)
  obtain ⟨n, hn, hd, htm⟩ : ∃ n : Nat, n < 1024 ∧ (IntKind.u64.wrap leaf) % 1024 = (n : Int) ∧ (IntKind.u64.wrap leaf).tmod 1024 = (n : Int) := umod8 leaf 1024 (by omega)
  have hwn : IntKind.i64.wrap (n : Int) = (n : Int) := by rw [IntKind.wrap_i64]; omega
  obtain ⟨X, hX⟩ : ∃ X, X = (Sg.mk x raw R cr).cells := ⟨_, rfl⟩
  have HX : Hid (X.size = 23 ∧ ∀ u ∈ X.toList, u.oneCell' = true) := by unfold Hid; rw [hX]; exact ⟨Sg.size_cells _, fun u hu => one_sg _ hu⟩
  have HBX : Hid (∀ {o : Oper} {c : Act} (s' t' : Operand) (_ : o.op = .build 34 #[(0, s'), (1, t')]) (_ : c.eval s' = .agg x.cells) (_ : c.eval t' = .slice R nr cr) (U : World), (execOp c.eval o).run Tryz.prog U = .ok (.value (.agg X)) U) := fun s' t' h1 h2 h3 U => by rw [hX]; exact run_sgB x raw R cr s' t' h1 h2 (by rw [hnr]; exact h3) U
  obtain ⟨b0, hb0⟩ : ∃ b, b = verS key x raw := ⟨_, rfl⟩
  have HT1 : Hid (∀ U, Below w.heap.size w U → Calls Tryz.prog 20 #[key.val, .agg X] U (BoolPost U b0)) := fun U hU => by
    rw [hX, hb0]
    exact sver_any key (Sg.mk x raw R cr) U ⟨hx, (hR.below hU).more hU.size, hsm⟩ ⟨by show raw.length ≤ cr; omega, hcm⟩
  have HT2 : Hid (∀ U, Below w.heap.size w U → Calls Tryz.prog 21 #[key.val, .agg X] U (BoolPost U b0)) := fun U hU => by
    rw [hX, hb0]
    exact rsver_any key (Sg.mk x raw R cr) U ⟨hx, (hR.below hU).more hU.size, hsm⟩ ⟨by show raw.length ≤ cr; omega, hcm⟩
  have HAw := Lib.hid awake8_any
  obtain ⟨pk, hpk⟩ : ∃ k, k = keyF s := ⟨_, rfl⟩
  have HPu : Hid (∀ U, Calls Tryz.prog 19 #[s.val, .int .i64 2] U (NmPost U pk)) := fun U => by rw [hpk]; exact rpublic_any s U
  have HSg := Lib.hid (fun U => rsign6_not s (n : Int) v U hv (.inl hy))
  clear hX hb0 hpk hR hB0 hB1 hB2 hB3
  go_enter Tryz.func4, Tryz.ntmps4
  go_upto_region 1 with fail
  rw [← hW, ← hp3, ← hp2, ← hp1, ← hp0]
  clear hW hp0 hp1 hp2 hp3
  go_upto_region 2 with (first
    | (go_at_call 18; refine (HSg.out _).mono ?_; rintro en w2 ⟨rfl, hb2⟩)
    | (refine wpList_store_blk rfl 34 (.tmp 17) (.tmp 32) rfl w2.heap.size zeroSc rfl rfl 34 zeroSc (Blk.new w2 _ _) rfl size_sg (fun u hu => one_zs hu) ?_; intro w3 hG3 hg3 hs3))
  have hb23 : Below w2.heap.size w2 w3 := ((Below.refl _ _).alloc (Nat.le_refl _) _).grown hg3 (by simp) (fun j hj => by injection hj with hj; subst hj; exact Nat.le_refl _)
  have hb3 := hb2.trans (hb23.mono hb2.size)
  obtain ⟨q0, q1, q2, q3⟩ := HRows.out _ hb3
  obtain ⟨g, hg⟩ : ∃ g, g = w2.heap.size := ⟨_, rfl⟩
  rw [← hg] at hG3 ⊢
  clear hg hb2 hb23 hg3 hs3 hG3 r0 r1 r2 r3
  try go_frame
  go_upto_region 3 with (first
    | (go_at_call 19; refine (HPu.out _).mono ?_; rintro en w4 ⟨rfl, hb4⟩)
    | (refine wpList_store_blk rfl 29 (.tmp 19) (.tmp 35) rfl w4.heap.size pk.cells rfl rfl 29 zero8 (Blk.new w4 _ _) rfl size_name (fun u hu => one_nm pk hu) ?_; intro w5 hK5 hg5 hs5))
  have hb45 : Below w4.heap.size w4 w5 := ((Below.refl _ _).alloc (Nat.le_refl _) _).grown hg5 (by simp) (fun j hj => by injection hj with hj; subst hj; exact Nat.le_refl _)
  have hb34 := hb4.trans (hb45.mono hb4.size)
  have hb5 := hb3.trans (hb34.mono hb3.size)
  clear hb4 hb45 hb34 hg5 hs5 hK5 q0 q1 q2 q3
  try go_frame
  go_upto_region 14 with fail
  have hbN := hb5
  obtain ⟨t0, t1, t2, t3⟩ := HRows.out _ hbN
  go_upto_region 15 with (first
    | (refine Great.wpList_readTo rfl (some 89) rfl (.agg X) (HBX.out (.tmp 87) (.tmp 88) rfl rfl rfl _) ?_)
    | (refine wpList_store_blk rfl 34 (.tmp 23) (.tmp 89) rfl (w5).heap.size X rfl rfl 34 zeroSc (Blk.new (w5) _ _) (by rw [HX.out.1]; rfl) (by rw [HX.out.1]; exact size_sg) HX.out.2 ?_; intro wy hY hgy hsy))
  have hbNy : Below (w5).heap.size (w5) wy := ((Below.refl _ _).alloc (Nat.le_refl _) _).grown hgy (by simp) (fun j hj => by injection hj with hj; subst hj; exact Nat.le_refl _)
  have hbY := hbN.trans (hbNy.mono hbN.size)
  have hbwY := hbW.trans (hbY.mono hbW.size)
  obtain ⟨gy, hgyE⟩ : ∃ g, g = (w5).heap.size := ⟨_, rfl⟩
  rw [← hgyE] at hY ⊢
  have HE : Hid (∀ U, Below wy.heap.size wy U → rowAt U p1 0 8 = some key.cells ∧ rowAt U gy 0 23 = some X) := fun U hU => ⟨(HRows.out U (hbY.trans (hU.mono hbY.size))).2.1, (hY.below hU hY.lt).row 23 HX.out.1⟩
  have hbZ : Below wy.heap.size wy wy := Below.refl _ _
  clear hgyE hY hgy hsy hbNy t0 t1 t2 t3 HBX HPu HSg
  try go_frame
  refine wp_region_noPanic ?_
  refine wp_region_held_drew (S := fun w' => rowAt w' p1 0 8 = some key.cells ∧ rowAt w' gy 0 23 = some X) (by kernel_rfl) (HE.out _ hbZ.drew) (fun hHeld => ?_)
  refine wpAnyH_takeD (some 90) (i := 0) (v := ?vh1_0) rfl rfl (by kernel_rfl) (by kernel_rfl) (by kernel_rfl) (fun _ _ _ h => h) (by rfl) ?hh1_0 (by assumption) ?_
  case hh1_0 => (intro wq hSw; (try dsimp only at hSw); go_simp; (try (with_reducible rfl)))
  go_frame
  refine wpAnyH_takeD (some 91) (i := 1) (v := ?vh1_1) rfl rfl (by kernel_rfl) (by kernel_rfl) (by kernel_rfl) (fun _ _ _ h => h) (by rfl) ?hh1_1 (by assumption) ?_
  case hh1_1 => (intro wq hSw; (try dsimp only at hSw); go_simp; (try (with_reducible rfl)))
  go_frame
  refine wpAnyH_takeD (some 93) (i := 3) (v := ?vh1_3) rfl rfl (by kernel_rfl) (by kernel_rfl) (by kernel_rfl) (fun _ _ _ h => h) (by rfl) ?hh1_3 (by assumption) ?_
  case hh1_3 => (intro wq hSw; (try dsimp only at hSw); go_simp; (try (with_reducible rfl)))
  go_frame
  refine wpAnyH_takeD (some 94) (i := 4) (v := ?vh1_4) rfl rfl (by kernel_rfl) (by kernel_rfl) (by kernel_rfl) (fun _ _ _ h => h) (by rfl) ?hh1_4 (by assumption) ?_
  case hh1_4 => (intro wq hSw; (try dsimp only at hSw); go_simp; (try (with_reducible rfl)))
  go_frame
  refine wpAnyH_ready (rs := [2]) (by kernel_rfl) (by simp) ?_
  refine AllReadyH.cons rfl (fun K hK => ?_) AllReadyH.nil
  go_simp
  refine (HT1.out _ (hbwY.trans ((hbZ.drew).mono hbwY.size))).mono ?_; rintro en v0 ⟨rfl, he0⟩; have hz0 := (hbZ.drew).trans (he0.mono (hbZ.drew).size); clear he0
  go_wp2_with fail
  refine hK.out _ _ (HE.out _ hz0) (fun hHeld => ?_)
  clear hK K
  try go_frame
  refine wpAnyH_ready (rs := [5]) (by kernel_rfl) (by simp) ?_
  refine AllReadyH.cons rfl (fun K hK => ?_) AllReadyH.nil
  go_simp
  refine (HT2.out _ (hbwY.trans ((hz0).mono hbwY.size))).mono ?_; rintro en v1 ⟨rfl, he1⟩; have hz1 := (hz0).trans (he1.mono (hz0).size); clear he1
  go_wp2_with fail
  refine hK.out _ _ (HE.out _ hz1) (fun hHeld => ?_)
  clear hK K
  try go_frame
  refine wpAnyH_takeD (some 96) (i := 6) (v := ?vh1_6) rfl rfl (by kernel_rfl) (by kernel_rfl) (by kernel_rfl) (fun _ _ _ h => h) (by rfl) ?hh1_6 (by assumption) ?_
  case hh1_6 => (intro wq hSw; (try dsimp only at hSw); go_simp; (try (with_reducible rfl)))
  go_frame
  refine wpAnyH_takeD (some 97) (i := 7) (v := ?vh1_7) rfl rfl (by kernel_rfl) (by kernel_rfl) (by kernel_rfl) (fun _ _ _ h => h) (by rfl) ?hh1_7 (by assumption) ?_
  case hh1_7 => (intro wq hSw; (try dsimp only at hSw); go_simp; (try (with_reducible rfl)))
  go_frame
  refine wpAnyH_ready (rs := [8]) (by kernel_rfl) (by simp) ?_
  refine AllReadyH.cons rfl (fun K hK => ?_) AllReadyH.nil
  go_simp
  refine (HAw.out _).mono ?_; rintro en v2 ⟨rfl, he2⟩; have hz2 := (hz1).trans (he2.mono (hz1).size); clear he2
  go_wp2_with fail
  refine hK.out _ _ (HE.out _ hz2) (fun hHeld => ?_)
  clear hK K
  try go_frame
  refine wpAnyH_takeD (some 99) (i := 9) (v := ?vh1_9) rfl rfl (by kernel_rfl) (by kernel_rfl) (by kernel_rfl) (fun _ _ _ h => h) (by rfl) ?hh1_9 (by assumption) ?_
  case hh1_9 => (intro wq hSw; (try dsimp only at hSw); go_simp; (try (with_reducible rfl)))
  go_frame
  refine wpAnyH_takeD (some 16) (i := 10) (v := ?vh1_10) rfl rfl (by kernel_rfl) (by kernel_rfl) (by kernel_rfl) (fun _ _ _ h => h) (by rfl) ?hh1_10 (by assumption) ?_
  case hh1_10 => (intro wq hSw; (try dsimp only at hSw); go_simp; (try (with_reducible rfl)))
  go_frame
  refine wpAnyH_done (by kernel_rfl) ?_ _
  refine NoPanic.normal ?_
  go_wp2
  go_ret
  exact ⟨by simp, hbwY.trans (hz2.mono hbwY.size)⟩

set_option maxRecDepth 100000 in
set_option maxHeartbeats 8000000 in
theorem lverif_yes (s key : Nm) (leaf : Int) (v x : Vt) (R : Option Addr) (nr cr : Nat) (raw : List UInt8) (pos : Int) (by_ : UInt8) (w : World) (hv : v.ok) (hx : x.ok) (hy : ValidP v) (hnr : raw.length = nr) (hcr : nr ≤ cr) (hcm : cr ≤ maxLen) (hR : Rd w w.heap.size R (raw.map B)) (hsm : raw.length ≤ 140737488351232) :
    Calls Tryz.prog 4 #[s.val, key.val, .int .i64 leaf, v.val, x.val, .slice R nr cr, .int .i64 pos, B by_] w fun e w' => e = .returned (.bool true) ∧ Below w.heap.size w w' := by
  obtain ⟨W, hW⟩ : ∃ W, W = (((w.alloc (.cells s.cells 29)).alloc (.cells key.cells 29)).alloc (.cells v.cells 31)).alloc (.cells x.cells 31) := ⟨_, rfl⟩
  have hbW : Below w.heap.size w W := by rw [hW]; exact ((((Below.refl _ _).alloc (Nat.le_refl _) _).alloc (by simp) _).alloc (by simp; omega) _).alloc (by simp; omega) _
  have hB0 : Blk W w.heap.size 29 s.cells := by rw [hW]; exact (((Blk.new w _ _).alloc _).alloc _).alloc _
  have hB1 : Blk W (w.heap.size + 1) 29 key.cells := by
    rw [hW]
    have := Blk.new (w.alloc (.cells s.cells 29)) 29 key.cells
    rw [show (w.alloc (.cells s.cells 29)).heap.size = w.heap.size + 1 from by simp] at this
    exact (this.alloc _).alloc _
  have hB2 : Blk W (w.heap.size + 2) 31 v.cells := by
    rw [hW]
    have := Blk.new ((w.alloc (.cells s.cells 29)).alloc (.cells key.cells 29)) 31 v.cells
    rw [show ((w.alloc (.cells s.cells 29)).alloc (.cells key.cells 29)).heap.size = w.heap.size + 2 from by simp] at this
    exact this.alloc _
  have hB3 : Blk W (w.heap.size + 3) 31 x.cells := by
    rw [hW]
    have := Blk.new (((w.alloc (.cells s.cells 29)).alloc (.cells key.cells 29)).alloc (.cells v.cells 31)) 31 x.cells
    rw [show (((w.alloc (.cells s.cells 29)).alloc (.cells key.cells 29)).alloc (.cells v.cells 31)).heap.size = w.heap.size + 3 from by simp] at this
    exact this
  obtain ⟨p0, hp0⟩ : ∃ p, p = w.heap.size := ⟨_, rfl⟩
  obtain ⟨p1, hp1⟩ : ∃ p, p = w.heap.size + 1 := ⟨_, rfl⟩
  obtain ⟨p2, hp2⟩ : ∃ p, p = w.heap.size + 2 := ⟨_, rfl⟩
  obtain ⟨p3, hp3⟩ : ∃ p, p = w.heap.size + 3 := ⟨_, rfl⟩
  rw [← hp0] at hB0
  rw [← hp1] at hB1
  rw [← hp2] at hB2
  rw [← hp3] at hB3
  have HRows : Hid (∀ U, Below W.heap.size W U → rowAt U p0 0 8 = some s.cells ∧ rowAt U p1 0 8 = some key.cells ∧ rowAt U p2 0 22 = some v.cells ∧ rowAt U p3 0 22 = some x.cells) := fun U hU => ⟨(hB0.below hU hB0.lt).row 8 rfl, (hB1.below hU hB1.lt).row 8 rfl, (hB2.below hU hB2.lt).row 22 rfl, (hB3.below hU hB3.lt).row 22 rfl⟩
  obtain ⟨r0, r1, r2, r3⟩ := HRows.out _ (Below.refl _ _)
  obtain ⟨n, hn, hd, htm⟩ : ∃ n : Nat, n < 1024 ∧ (IntKind.u64.wrap leaf) % 1024 = (n : Int) ∧ (IntKind.u64.wrap leaf).tmod 1024 = (n : Int) := umod8 leaf 1024 (by omega)
  have hwn : IntKind.i64.wrap (n : Int) = (n : Int) := by rw [IntKind.wrap_i64]; omega
  obtain ⟨X, hX⟩ : ∃ X, X = (Sg.mk x raw R cr).cells := ⟨_, rfl⟩
  have HX : Hid (X.size = 23 ∧ ∀ u ∈ X.toList, u.oneCell' = true) := by unfold Hid; rw [hX]; exact ⟨Sg.size_cells _, fun u hu => one_sg _ hu⟩
  have HBX : Hid (∀ {o : Oper} {c : Act} (s' t' : Operand) (_ : o.op = .build 34 #[(0, s'), (1, t')]) (_ : c.eval s' = .agg x.cells) (_ : c.eval t' = .slice R nr cr) (U : World), (execOp c.eval o).run Tryz.prog U = .ok (.value (.agg X)) U) := fun s' t' h1 h2 h3 U => by rw [hX]; exact run_sgB x raw R cr s' t' h1 h2 (by rw [hnr]; exact h3) U
  obtain ⟨b0, hb0⟩ : ∃ b, b = verS key x raw := ⟨_, rfl⟩
  have HT1 : Hid (∀ U, Below w.heap.size w U → Calls Tryz.prog 20 #[key.val, .agg X] U (BoolPost U b0)) := fun U hU => by
    rw [hX, hb0]
    exact sver_any key (Sg.mk x raw R cr) U ⟨hx, (hR.below hU).more hU.size, hsm⟩ ⟨by show raw.length ≤ cr; omega, hcm⟩
  have HT2 : Hid (∀ U, Below w.heap.size w U → Calls Tryz.prog 21 #[key.val, .agg X] U (BoolPost U b0)) := fun U hU => by
    rw [hX, hb0]
    exact rsver_any key (Sg.mk x raw R cr) U ⟨hx, (hR.below hU).more hU.size, hsm⟩ ⟨by show raw.length ≤ cr; omega, hcm⟩
  have HAw := Lib.hid awake8_any
  obtain ⟨pk, hpk⟩ : ∃ k, k = keyF s := ⟨_, rfl⟩
  have HPu : Hid (∀ U, Calls Tryz.prog 19 #[s.val, .int .i64 2] U (NmPost U pk)) := fun U => by rw [hpk]; exact rpublic_any s U
  obtain ⟨sig, hsig⟩ : ∃ sig, sig = sigF s n (nameF v) := ⟨_, rfl⟩
  have HL : Hid (sig.length = 370) := by unfold Hid; rw [hsig]; exact sigF_len _ _ _
  have HSg : Hid (∀ U, Calls Tryz.prog 18 #[s.val, .int .i64 (n : Int), v.val] U (SgnG (SgG U.heap.size v sig) true U)) := fun U => by rw [hsig]; exact rsign6_yes s n v U hv hn hy
  have HVer : Hid (verS pk v sig = true) := by unfold Hid verS; rw [decide_eq_true hy, hpk, hsig, ver_sign s n _ hn]; rfl
  have HOk : Hid (v.ok ∧ x.ok) := ⟨hv, hx⟩
  have HHi : Hid (∀ {k T U}, SgOk U U.heap.size T → SgCap T → Calls Tryz.prog 20 #[Nm.val k, T.val] U (BoolPost U (verS k T.vote T.sig)) ∧ Calls Tryz.prog 21 #[Nm.val k, T.val] U (BoolPost U (verS k T.vote T.sig))) := fun h1 h2 => ⟨sver_any _ _ _ h1 h2, rsver_any _ _ _ h1 h2⟩
  clear hX hb0 hpk hR hB0 hB1 hB2 hB3 hsig
  go_enter Tryz.func4, Tryz.ntmps4
  go_upto_region 1 with fail
  rw [← hW, ← hp3, ← hp2, ← hp1, ← hp0]
  clear hW hp0 hp1 hp2 hp3
  go_upto_region 2 with (first
    | (go_at_call 18; refine (HSg.out _).mono ?_; rintro en w2 ⟨c1, rfl, ⟨A1, k1, rfl, ho1⟩, hb2⟩; have HO1 := Lib.hid ho1; clear ho1)
    | (refine wpList_store_blk rfl 34 (.tmp 17) (.tmp 32) rfl w2.heap.size (Sg.mk v sig A1 k1).cells rfl rfl 34 zeroSc (Blk.new w2 _ _) (by rw [Sg.size_cells]; rfl) (by rw [Sg.size_cells]; exact size_sg) (fun u hu => one_sg _ hu) ?_; intro w3 hG3 hg3 hs3))
  have hb23 : Below w2.heap.size w2 w3 := ((Below.refl _ _).alloc (Nat.le_refl _) _).grown hg3 (by simp) (fun j hj => by injection hj with hj; subst hj; exact Nat.le_refl _)
  have hb3 := hb2.trans (hb23.mono hb2.size)
  have HO3 := Lib.hid (own_below HO1.out hb23 (Nat.le_refl _))
  obtain ⟨b, o, hA1, hblt⟩ : ∃ b o, A1 = some ⟨b, o, none⟩ ∧ b < w3.heap.size := by
    obtain ⟨b, o, e, hb, _⟩ := (Rd.of_own HO3.out).cells (by intro e; have := HL.out; rw [List.map_eq_nil_iff] at e; rw [e] at this; simp at this)
    exact ⟨b, o, e, hb⟩
  subst hA1
  have hcap : 370 ≤ k1 ∧ k1 ≤ maxLen := by
    rcases HO3.out.2 with ⟨hv, _⟩ | ⟨g, cap, cur, hv, _, _, h1, h2, _⟩
    · cases hv
    · have := HL.out; injection hv with _ _ hc; omega
  have HCap := Lib.hid hcap
  obtain ⟨q0, q1, q2, q3⟩ := HRows.out _ hb3
  obtain ⟨T, hT⟩ : ∃ T, T = Sg.mk v sig (some ⟨b, o, none⟩) k1 := ⟨_, rfl⟩
  have hG3' : Blk w3 w2.heap.size 34 T.cells := by rw [hT]; exact hG3
  have HG3 := Lib.hid hG3'
  have HRd : Hid (Rd w3 w3.heap.size (some ⟨b, o, none⟩) (sig.map B)) := Rd.of_own HO3.out
  have HTc : Hid (T.cells[22]? = some (.slice (some ⟨b, o, none⟩) 370 k1)) := by
    unfold Hid
    rw [hT, Sg.cell_sig, HL.out]
  have HTe := Lib.hid hT
  obtain ⟨g, hg⟩ : ∃ g, g = w2.heap.size := ⟨_, rfl⟩
  rw [← hg] at HG3 ⊢
  clear hg hb2 hb23 hg3 hs3 hG3 hG3' r0 r1 r2 r3 HO1 HO3 hcap hT hblt
  try go_frame
  go_upto_region 3 with (first
    | (go_at_call 19; refine (HPu.out _).mono ?_; rintro en w4 ⟨rfl, hb4⟩)
    | (refine wpList_store_blk rfl 29 (.tmp 19) (.tmp 35) rfl w4.heap.size pk.cells rfl rfl 29 zero8 (Blk.new w4 _ _) rfl size_name (fun u hu => one_nm pk hu) ?_; intro w5 hK5 hg5 hs5))
  have hb45 : Below w4.heap.size w4 w5 := ((Below.refl _ _).alloc (Nat.le_refl _) _).grown hg5 (by simp) (fun j hj => by injection hj with hj; subst hj; exact Nat.le_refl _)
  have hb35 := hb4.trans (hb45.mono hb4.size)
  have hb5 := hb3.trans (hb35.mono hb3.size)
  obtain ⟨gp, hgp⟩ : ∃ g, g = w4.heap.size := ⟨_, rfl⟩
  rw [← hgp] at hK5 ⊢
  have HG5 : Hid (∀ U, Below w5.heap.size w5 U → rowAt U p1 0 8 = some key.cells ∧ rowAt U p2 0 22 = some v.cells ∧ rowAt U p3 0 22 = some x.cells ∧ rowAt U g 0 23 = some T.cells ∧ U.cell? ⟨g, 22, none⟩ = some (.slice (some ⟨b, o, none⟩) 370 k1) ∧ rowAt U gp 0 8 = some pk.cells) := fun U hU => by
    obtain ⟨_, h1, h2, h3⟩ := HRows.out U (hb5.trans (hU.mono hb5.size))
    have h4 := HG3.out.below (hb35.trans (hU.mono hb35.size)) HG3.out.lt
    exact ⟨h1, h2, h3, h4.row 23 T.size_cells, (h4.cell 22).trans HTc.out, (hK5.below hU hK5.lt).row 8 rfl⟩
  have HRd5 : Hid (Rd w5 w5.heap.size (some ⟨b, o, none⟩) (sig.map B)) := (HRd.out.below hb35).more hb35.size
  clear hgp hb4 hb45 hb35 hg5 hs5 hK5 q0 q1 q2 q3 HG3 HRd HTc hb3
  try go_frame
  obtain ⟨d, hdl, hdm, hdt⟩ : ∃ d : Nat, d < 370 ∧ (IntKind.u64.wrap pos) % 370 = (d : Int) ∧ (IntKind.u64.wrap pos).tmod 370 = (d : Int) := umod8 pos 370 (by omega)
  have hwd : IntKind.i64.wrap (d : Int) = (d : Int) := by rw [IntKind.wrap_i64]; omega
  have hdi : (d : Int) < 370 := by omega
  have hb50 : Below w5.heap.size w5 (w5.alloc (.cells #[] 5)) := (Below.refl _ _).alloc (Nat.le_refl _) _
  have hmade : Hid ((w5.alloc (.cells #[] 5)).ownsRow w5.heap.size 5 1 (.slice (some ⟨w5.heap.size, 0, none⟩) 0 0) 0 []) := World.ownsRow_made w5 #[] 0 (Nat.le_refl _) (by unfold maxLen; omega) rfl
  have c22 : (w5.alloc (.cells #[] 5)).cell? ⟨g, 22, none⟩ = some (.slice (some ⟨b, o, none⟩) 370 k1) := (HG5.out _ hb50).2.2.2.2.1
  go_upto_region 5 with (at_builtin; refine wpList_app rfl (.tmp 37) (.tmp 39) _ rfl w5.heap.size 5 (.int .u8 0) 1 1 Tryz.underlying32 info_byte rfl (by decide) (.slice (some ⟨w5.heap.size, 0, none⟩) 0 0) 0 [] rfl hmade.out (w5.alloc (.cells #[] 5)).heap.size (some ⟨b, o, none⟩) 370 k1 (sig.map B) rfl (by rw [List.length_map, HL.out]) ((HRd5.out.below hb50).more hb50.size) (fun u hu => bytes_one hu) (by omega) (by unfold maxLen; omega) hb50.size ?_; intro v6 w6 hown6 hg6 hat6)
  have hb56 : Below w5.heap.size w5 w6 := hb50.grown hg6 hb50.size (fun j hj => (hmade.out.lt _ hj).1)
  obtain ⟨A6, c6, hv6⟩ := own_form hown6
  subst hv6
  have hown6' : w6.ownsRow w5.heap.size 5 1 (.slice A6 370 c6) 370 (sig.map B) := by simpa using hown6
  obtain ⟨g6, hA6⟩ : ∃ g6, A6 = some ⟨g6, 0, none⟩ := by
    rcases hown6'.2 with ⟨_, h0⟩ | ⟨g6, cap, cur, hv, _⟩
    · exact absurd h0 (by omega)
    · injection hv with a1; exact ⟨g6, a1⟩
  subst hA6
  have hcap6 : 370 ≤ c6 ∧ c6 ≤ maxLen := by
    rcases hown6'.2 with ⟨hv, _⟩ | ⟨g, cap, cur, hv, _, _, h1, h2, _⟩
    · cases hv
    · injection hv with _ _ hc; omega
  have HCap6 := Lib.hid hcap6
  have HOwn6 := Lib.hid hown6'
  obtain ⟨y0, hy0⟩ : ∃ y, sig[d]? = some y := ⟨_, List.getElem?_eq_getElem (by rw [HL.out]; exact hdl)⟩
  have hcell : w6.cell? ⟨g6, d, none⟩ = some (B y0) := own_byte8 HOwn6.out hdl hy0
  have hfz : w6.frozen? ⟨g6, d, none⟩ = false := World.ownsRow.frozenAt HOwn6.out d
  obtain ⟨y, hyE⟩ : ∃ y : UInt8, y = y0 ^^^ by_ := ⟨_, rfl⟩
  have hxor : bits .xor .u8 (y0.toNat : Int) (by_.toNat : Int) = (y.toNat : Int) := by rw [hyE]; exact xor8 y0 by_
  clear hyE hown6 hown6' hg6 hat6 hmade c22 hb50 hcap6 hy0
  try go_frame
  go_upto_region 6 with fail
  obtain ⟨w7, hw7⟩ : ∃ w7, w7 = w6.setCell ⟨g6, d, none⟩ (B y) := ⟨_, rfl⟩
  obtain ⟨cb, hcb⟩ : ∃ cb : List UInt8, cb = sig.set d y := ⟨_, rfl⟩
  have HCl : Hid (cb.length = 370) := by unfold Hid; rw [hcb, List.length_set, HL.out]
  have HOwn7 : Hid (w7.ownsRow w5.heap.size 5 1 (.slice (some ⟨g6, 0, none⟩) 370 c6) 370 (cb.map B)) := by
    unfold Hid
    rw [hw7, hcb, List.map_set]
    exact (HOwn6.out.stored d (B y)).1
  have hb57 : Below w5.heap.size w5 w7 := by rw [hw7]; exact hb56.setCell (p := ⟨g6, d, none⟩) (own_ge8 HOwn6.out) _
  rw [show w6.setCell ⟨g6, d, none⟩ (B y) = w7 from hw7.symm]
  obtain ⟨u1, u2, u3, u4, u5, u6⟩ := HG5.out _ hb57
  obtain ⟨X1, hX1⟩ : ∃ X, X = (Sg.mk x sig (some ⟨b, o, none⟩) k1).cells := ⟨_, rfl⟩
  obtain ⟨X2, hX2⟩ : ∃ X, X = (Sg.mk v cb (some ⟨g6, 0, none⟩) c6).cells := ⟨_, rfl⟩
  obtain ⟨X3, hX3⟩ : ∃ X, X = T.cells := ⟨_, rfl⟩
  have HBX1 : Hid (∀ {o' : Oper} {c' : Act} (s' t' : Operand) (_ : o'.op = .build 34 #[(0, s'), (1, t')]) (_ : c'.eval s' = .agg x.cells) (_ : c'.eval t' = .slice (some ⟨b, o, none⟩) 370 k1) (U : World), (execOp c'.eval o').run Tryz.prog U = .ok (.value (.agg X1)) U) := fun s' t' h1 h2 h3 U => by rw [hX1]; exact run_sgB x sig _ k1 s' t' h1 h2 (by rw [HL.out]; exact h3) U
  have HBX2 : Hid (∀ {o' : Oper} {c' : Act} (s' t' : Operand) (_ : o'.op = .build 34 #[(0, s'), (1, t')]) (_ : c'.eval s' = .agg v.cells) (_ : c'.eval t' = .slice (some ⟨g6, 0, none⟩) 370 c6) (U : World), (execOp c'.eval o').run Tryz.prog U = .ok (.value (.agg X2)) U) := fun s' t' h1 h2 h3 U => by rw [hX2]; exact run_sgB v cb _ c6 s' t' h1 h2 (by rw [HCl.out]; exact h3) U
  have hs1 : X1.size = 23 := by rw [hX1]; exact Sg.size_cells _
  have hs2 : X2.size = 23 := by rw [hX2]; exact Sg.size_cells _
  have hs3 : X3.size = 23 := by rw [hX3]; exact Sg.size_cells _
  obtain ⟨f, hf⟩ : ∃ f : Nat → Array Value, f = fun i => if i = 0 then X1 else if i = 1 then X2 else X3 := ⟨_, rfl⟩
  obtain ⟨Y, hYe⟩ : ∃ Y, Y = X1 ++ X2 ++ X3 := ⟨_, rfl⟩
  have HBY : Hid (∀ {o' : Oper} {c' : Act} (r s' t' : Operand) (_ : o'.op = .build 47 #[(0, r), (1, s'), (2, t')]) (_ : c'.eval r = .agg X1) (_ : c'.eval s' = .agg X2) (_ : c'.eval t' = .agg X3) (U : World), (execOp c'.eval o').run Tryz.prog U = .ok (.value (.agg Y)) U) := fun r s' t' h0 h1 h2 h3 U => by rw [hYe]; exact run_build3 X1 X2 X3 hs1 hs2 hs3 r s' t' h0 h1 h2 h3 U
  have HIx : Hid (∀ {o' : Oper} {c' : Act} (i : Nat) (_ : i < 3) (s' t' : Operand) (_ : o'.op = .index 47 s' t') (_ : c'.eval s' = .agg Y) (_ : c'.eval t' = .int .i64 (i : Int)) (U : World), (execOp c'.eval o').run Tryz.prog U = .ok (.value (.agg (f i))) U) := fun i hi s' t' h0 h1 h2 U => by rw [hf]; exact run_index3 X1 X2 X3 hs1 hs2 hs3 i hi s' t' h0 (by rw [h1, hYe]) h2 U
  have ho1 : ∀ u ∈ X1.toList, u.oneCell' = true := by rw [hX1]; exact fun u hu => one_sg _ hu
  have ho2 : ∀ u ∈ X2.toList, u.oneCell' = true := by rw [hX2]; exact fun u hu => one_sg _ hu
  have ho3 : ∀ u ∈ X3.toList, u.oneCell' = true := by rw [hX3]; exact fun u hu => one_sg _ hu
  have HFs : Hid (∀ i, (f i).size = 23 ∧ ∀ u ∈ (f i).toList, u.oneCell' = true) := by
    intro i
    rw [hf]
    show (if i = 0 then X1 else if i = 1 then X2 else X3).size = 23 ∧ ∀ u ∈ (if i = 0 then X1 else if i = 1 then X2 else X3).toList, u.oneCell' = true
    split
    · exact ⟨hs1, ho1⟩
    · split
      · exact ⟨hs2, ho2⟩
      · exact ⟨hs3, ho3⟩
  have HSigR : Hid (∀ U, Below w7.heap.size w7 U → Rd U U.heap.size (some ⟨b, o, none⟩) (sig.map B)) := fun U hU => (HRd5.out.below (hb57.trans (hU.mono hb57.size))).more (hb57.trans (hU.mono hb57.size)).size
  have HV3 : Hid (∀ k U, Below w7.heap.size w7 U → Calls Tryz.prog 20 #[Nm.val k, .agg T.cells] U (BoolPost U (verS k v sig)) ∧ Calls Tryz.prog 21 #[Nm.val k, .agg T.cells] U (BoolPost U (verS k v sig))) := fun k U hU => by
    have h := HHi.out (k := k) (T := Sg.mk v sig (some ⟨b, o, none⟩) k1) (U := U) ⟨HOk.out.1, HSigR.out U hU, by show sig.length ≤ _; rw [HL.out]; omega⟩ ⟨by show sig.length ≤ k1; rw [HL.out]; exact HCap.out.1, HCap.out.2⟩
    rw [HTe.out]; exact h
  have HFv : Hid (∀ i, ∃ bi, ∀ U, Below w7.heap.size w7 U → Calls Tryz.prog 20 #[pk.val, .agg (f i)] U (BoolPost U bi) ∧ Calls Tryz.prog 21 #[pk.val, .agg (f i)] U (BoolPost U bi)) := by
    intro i
    rw [hf]
    show ∃ bi, ∀ U, Below w7.heap.size w7 U → Calls Tryz.prog 20 #[pk.val, .agg (if i = 0 then X1 else if i = 1 then X2 else X3)] U (BoolPost U bi) ∧ Calls Tryz.prog 21 #[pk.val, .agg (if i = 0 then X1 else if i = 1 then X2 else X3)] U (BoolPost U bi)
    split
    · refine ⟨verS pk x sig, fun U hU => ?_⟩
      rw [hX1]
      exact HHi.out (k := pk) (T := Sg.mk x sig (some ⟨b, o, none⟩) k1) (U := U) ⟨HOk.out.2, HSigR.out U hU, by show sig.length ≤ _; rw [HL.out]; omega⟩ ⟨by show sig.length ≤ k1; rw [HL.out]; exact HCap.out.1, HCap.out.2⟩
    · split
      · refine ⟨verS pk v cb, fun U hU => ?_⟩
        rw [hX2]
        exact HHi.out (k := pk) (T := Sg.mk v cb (some ⟨g6, 0, none⟩) c6) (U := U) ⟨HOk.out.1, ((Rd.of_own HOwn7.out).below hU).more hU.size, by show cb.length ≤ _; rw [HCl.out]; omega⟩ ⟨by show cb.length ≤ c6; rw [HCl.out]; exact HCap6.out.1, HCap6.out.2⟩
      · refine ⟨verS pk v sig, fun U hU => ?_⟩
        rw [hX3]
        exact HV3.out pk U hU
  have HV3p : Hid (∀ U, Below w7.heap.size w7 U → Calls Tryz.prog 20 #[pk.val, .agg X3] U (BoolPost U true)) := fun U hU => by
    have h := (HV3.out pk U hU).1
    rw [HVer.out] at h; rw [hX3]; exact h
  obtain ⟨bk, hbk⟩ : ∃ b, b = verS key v sig := ⟨_, rfl⟩
  have HV3k : Hid (∀ U, Below w7.heap.size w7 U → Calls Tryz.prog 20 #[key.val, .agg X3] U (BoolPost U bk) ∧ Calls Tryz.prog 21 #[key.val, .agg X3] U (BoolPost U bk)) := fun U hU => by rw [hbk, hX3]; exact HV3.out key U hU
  rw [← hX3] at u4
  have HG7 : Hid (∀ U, Below w7.heap.size w7 U → rowAt U p1 0 8 = some key.cells ∧ rowAt U g 0 23 = some X3 ∧ rowAt U gp 0 8 = some pk.cells) := fun U hU => by
    obtain ⟨h1, _, _, h4, _, h6⟩ := HG5.out U (hb57.trans (hU.mono hb57.size))
    rw [hX3]
    exact ⟨h1, h4, h6⟩
  have hb7 := hb5.trans (hb57.mono hb5.size)
  clear ho1 ho2 ho3 hbk hf hYe hX1 hX2 hX3 hs1 hs2 hs3 hw7 hcb HV3 HSigR HHi HOwn7 HOwn6 hcell hfz hxor hdl hdm hdt hwd hdi hb56 hb57 HG5 HRd5 hb5 HTe HSg HPu HCap HCap6 HOk HVer
  try go_frame
  go_upto_region 7 with (first
    | (refine Great.wpList_readTo rfl (some 57) rfl (.agg X1) (HBX1.out (.tmp 54) (.tmp 56) rfl rfl rfl _) ?_)
    | (refine Great.wpList_readTo rfl (some 60) rfl (.agg X2) (HBX2.out (.tmp 58) (.tmp 59) rfl rfl rfl _) ?_)
    | (refine Great.wpList_readTo rfl (some 62) rfl (.agg Y) (HBY.out (.tmp 57) (.tmp 60) (.tmp 61) rfl rfl rfl rfl _) ?_))
  clear HBX1 HBX2 HBY u1 u2 u3 u4 u5 u6
  try go_frame
  go_loopw [63] (fun iv wr => CntV 3 w7 iv wr) (fun iv _ => 3 - (intOf iv).toNat)
  case atStart => exact ⟨0, rfl, Nat.zero_le _, Below.refl _ _⟩
  case round =>
    obtain ⟨i, rfl, hin, hbw⟩ := hrel
    by_cases hi : i < 3
    · have di : decide ((i : Int) < 3) = true := by simp; omega
      obtain ⟨bi, hbi⟩ := HFv.out i
      have HBi := Lib.hid hbi
      obtain ⟨Z, hZ⟩ : ∃ Z, Z = f i := ⟨_, rfl⟩
      have HZs := Lib.hid (HFs.out i)
      have HIi : Hid (∀ {o' : Oper} {c' : Act} (s' t' : Operand) (_ : o'.op = .index 47 s' t') (_ : c'.eval s' = .agg Y) (_ : c'.eval t' = .int .i64 (i : Int)) (U : World), (execOp c'.eval o').run Tryz.prog U = .ok (.value (.agg Z)) U) := fun s' t' h0 h1 h2 U => by rw [hZ]; exact HIx.out i hi s' t' h0 h1 h2 U
      rw [← hZ] at HBi HZs
      clear hbi hZ
      go_upto_region 9 with (first
        | (refine Great.wpList_readTo rfl (some 65) rfl (.agg Z) (HIi.out (.tmp 62) (.tmp 63) rfl rfl rfl _) ?_)
        | (refine wpList_store_blk rfl 34 (.tmp 22) (.tmp 65) rfl wr.heap.size Z rfl rfl 34 zeroSc (Blk.new wr _ _) (by rw [HZs.out.1]; rfl) (by rw [HZs.out.1]; exact size_sg) HZs.out.2 ?_; intro wz hZz hgz hsz))
      have hbrz : Below wr.heap.size wr wz := ((Below.refl _ _).alloc (Nat.le_refl _) _).grown hgz (by simp) (fun j hj => by injection hj with hj; subst hj; exact Nat.le_refl _)
      have hbz := hbw.trans (hbrz.mono hbw.size)
      obtain ⟨gz, hgzE⟩ : ∃ g, g = wr.heap.size := ⟨_, rfl⟩
      rw [← hgzE] at hZz ⊢
      have HEz : Hid (∀ U, Below wz.heap.size wz U → rowAt U gp 0 8 = some pk.cells ∧ rowAt U gz 0 23 = some Z) := fun U hU => ⟨(HG7.out U (hbz.trans (hU.mono hbz.size))).2.2, (hZz.below hU hZz.lt).row 23 HZs.out.1⟩
      have hb00 : Below wz.heap.size wz wz := Below.refl _ _
      clear hgzE hZz hgz hsz hbrz HIi
      try go_frame
      refine wp_region_noPanic ?_
      refine wp_region_held_drew (S := fun w' => rowAt w' gp 0 8 = some pk.cells ∧ rowAt w' gz 0 23 = some Z) (by kernel_rfl) (HEz.out _ hb00.drew) (fun hHeld => ?_)
      refine wpAnyH_takeD (some 66) (i := 0) (v := ?vh2_0) rfl rfl (by kernel_rfl) (by kernel_rfl) (by kernel_rfl) (fun _ _ _ h => h) (by rfl) ?hh2_0 (by assumption) ?_
      case hh2_0 => (intro wq hSw; (try dsimp only at hSw); go_simp; (try (with_reducible rfl)))
      go_frame
      refine wpAnyH_takeD (some 67) (i := 1) (v := ?vh2_1) rfl rfl (by kernel_rfl) (by kernel_rfl) (by kernel_rfl) (fun _ _ _ h => h) (by rfl) ?hh2_1 (by assumption) ?_
      case hh2_1 => (intro wq hSw; (try dsimp only at hSw); go_simp; (try (with_reducible rfl)))
      go_frame
      refine wpAnyH_takeD (some 69) (i := 3) (v := ?vh2_3) rfl rfl (by kernel_rfl) (by kernel_rfl) (by kernel_rfl) (fun _ _ _ h => h) (by rfl) ?hh2_3 (by assumption) ?_
      case hh2_3 => (intro wq hSw; (try dsimp only at hSw); go_simp; (try (with_reducible rfl)))
      go_frame
      refine wpAnyH_takeD (some 70) (i := 4) (v := ?vh2_4) rfl rfl (by kernel_rfl) (by kernel_rfl) (by kernel_rfl) (fun _ _ _ h => h) (by rfl) ?hh2_4 (by assumption) ?_
      case hh2_4 => (intro wq hSw; (try dsimp only at hSw); go_simp; (try (with_reducible rfl)))
      go_frame
      refine wpAnyH_ready (rs := [2]) (by kernel_rfl) (by simp) ?_
      refine AllReadyH.cons rfl (fun K hK => ?_) AllReadyH.nil
      go_simp
      refine (HBi.out _ (hbz.trans ((hb00.drew).mono hbz.size))).1.mono ?_; rintro en v0 ⟨rfl, he0⟩; have hr0 := (hb00.drew).trans (he0.mono (hb00.drew).size); clear he0
      go_wp2_with fail
      refine hK.out _ _ (HEz.out _ hr0) (fun hHeld => ?_)
      clear hK K
      try go_frame
      refine wpAnyH_ready (rs := [5]) (by kernel_rfl) (by simp) ?_
      refine AllReadyH.cons rfl (fun K hK => ?_) AllReadyH.nil
      go_simp
      refine (HBi.out _ (hbz.trans ((hr0).mono hbz.size))).2.mono ?_; rintro en v1 ⟨rfl, he1⟩; have hr1 := (hr0).trans (he1.mono (hr0).size); clear he1
      go_wp2_with fail
      refine hK.out _ _ (HEz.out _ hr1) (fun hHeld => ?_)
      clear hK K
      try go_frame
      refine wpAnyH_takeD (some 72) (i := 6) (v := ?vh2_6) rfl rfl (by kernel_rfl) (by kernel_rfl) (by kernel_rfl) (fun _ _ _ h => h) (by rfl) ?hh2_6 (by assumption) ?_
      case hh2_6 => (intro wq hSw; (try dsimp only at hSw); go_simp; (try (with_reducible rfl)))
      go_frame
      refine wpAnyH_done (by kernel_rfl) ?_ _
      refine NoPanic.normal ?_
      go_wp2_with fail
      go_roundw
      case rel => exact ⟨i + 1, by go_num, by omega, hbz.trans (hr1.mono hbz.size)⟩
      case measure => simp [intOf]; omega
    · have di : decide ((i : Int) < 3) = false := by simp; omega
      have hbr := hb7.trans (hbw.mono hb7.size)
      have HV3p' := HV3p
      have hb00 : Below wr.heap.size wr wr := Below.refl _ _
      have HEr : Hid (∀ U, Below wr.heap.size wr U → rowAt U gp 0 8 = some pk.cells ∧ rowAt U g 0 23 = some X3 ∧ rowAt U p1 0 8 = some key.cells) := fun U hU => by
        obtain ⟨h1, h2, h3⟩ := HG7.out U (hbw.trans (hU.mono hbw.size))
        exact ⟨h3, h2, h1⟩
      clear HV3p' HIx HFs HFv HG7 hb7
      try go_frame
      go_upto_region 12 with fail
      refine wp_region_noPanic ?_
      refine wp_region_held_drew (S := fun w' => rowAt w' gp 0 8 = some pk.cells ∧ rowAt w' g 0 23 = some X3 ∧ rowAt w' p1 0 8 = some key.cells) (by kernel_rfl) (HEr.out _ hb00.drew) (fun hHeld => ?_)
      refine wpAnyH_takeD (some 74) (i := 0) (v := ?vh3_0) rfl rfl (by kernel_rfl) (by kernel_rfl) (by kernel_rfl) (fun _ _ _ h => h) (by rfl) ?hh3_0 (by assumption) ?_
      case hh3_0 => (intro wq hSw; (try dsimp only at hSw); go_simp; (try (with_reducible rfl)))
      go_frame
      refine wpAnyH_takeD (some 75) (i := 1) (v := ?vh3_1) rfl rfl (by kernel_rfl) (by kernel_rfl) (by kernel_rfl) (fun _ _ _ h => h) (by rfl) ?hh3_1 (by assumption) ?_
      case hh3_1 => (intro wq hSw; (try dsimp only at hSw); go_simp; (try (with_reducible rfl)))
      go_frame
      refine wpAnyH_ready (rs := [2]) (by kernel_rfl) (by simp) ?_
      refine AllReadyH.cons rfl (fun K hK => ?_) AllReadyH.nil
      go_simp
      refine (HV3p.out _ (hbw.trans ((hb00.drew).mono hbw.size))).mono ?_; rintro en v0 ⟨rfl, he0⟩; have hr0 := (hb00.drew).trans (he0.mono (hb00.drew).size); clear he0
      go_wp2_with fail
      refine hK.out _ _ (HEr.out _ hr0) (fun hHeld => ?_)
      clear hK K
      try go_frame
      refine wpAnyH_takeD (some 77) (i := 3) (v := ?vh3_3) rfl rfl (by kernel_rfl) (by kernel_rfl) (by kernel_rfl) (fun _ _ _ h => h) (by rfl) ?hh3_3 (by assumption) ?_
      case hh3_3 => (intro wq hSw; (try dsimp only at hSw); go_simp; (try (with_reducible rfl)))
      go_frame
      refine wpAnyH_takeD (some 78) (i := 4) (v := ?vh3_4) rfl rfl (by kernel_rfl) (by kernel_rfl) (by kernel_rfl) (fun _ _ _ h => h) (by rfl) ?hh3_4 (by assumption) ?_
      case hh3_4 => (intro wq hSw; (try dsimp only at hSw); go_simp; (try (with_reducible rfl)))
      go_frame
      refine wpAnyH_takeD (some 79) (i := 5) (v := ?vh3_5) rfl rfl (by kernel_rfl) (by kernel_rfl) (by kernel_rfl) (fun _ _ _ h => h) (by rfl) ?hh3_5 (by assumption) ?_
      case hh3_5 => (intro wq hSw; (try dsimp only at hSw); go_simp; (try (with_reducible rfl)))
      go_frame
      refine wpAnyH_takeD (some 80) (i := 6) (v := ?vh3_6) rfl rfl (by kernel_rfl) (by kernel_rfl) (by kernel_rfl) (fun _ _ _ h => h) (by rfl) ?hh3_6 (by assumption) ?_
      case hh3_6 => (intro wq hSw; (try dsimp only at hSw); go_simp; (try (with_reducible rfl)))
      go_frame
      refine wpAnyH_takeD (some 82) (i := 8) (v := ?vh3_8) rfl rfl (by kernel_rfl) (by kernel_rfl) (by kernel_rfl) (fun _ _ _ h => h) (by rfl) ?hh3_8 (by assumption) ?_
      case hh3_8 => (intro wq hSw; (try dsimp only at hSw); go_simp; (try (with_reducible rfl)))
      go_frame
      refine wpAnyH_takeD (some 83) (i := 9) (v := ?vh3_9) rfl rfl (by kernel_rfl) (by kernel_rfl) (by kernel_rfl) (fun _ _ _ h => h) (by rfl) ?hh3_9 (by assumption) ?_
      case hh3_9 => (intro wq hSw; (try dsimp only at hSw); go_simp; (try (with_reducible rfl)))
      go_frame
      refine wpAnyH_ready (rs := [7]) (by kernel_rfl) (by simp) ?_
      refine AllReadyH.cons rfl (fun K hK => ?_) AllReadyH.nil
      go_simp
      refine ((HV3k.out _ (hbw.trans ((hr0).mono hbw.size))).1).mono ?_; rintro en v1 ⟨rfl, he1⟩; have hr1 := (hr0).trans (he1.mono (hr0).size); clear he1
      go_wp2_with fail
      refine hK.out _ _ (HEr.out _ hr1) (fun hHeld => ?_)
      clear hK K
      try go_frame
      refine wpAnyH_ready (rs := [10]) (by kernel_rfl) (by simp) ?_
      refine AllReadyH.cons rfl (fun K hK => ?_) AllReadyH.nil
      go_simp
      refine ((HV3k.out _ (hbw.trans ((hr1).mono hbw.size))).2).mono ?_; rintro en v2 ⟨rfl, he2⟩; have hr2 := (hr1).trans (he2.mono (hr1).size); clear he2
      go_wp2_with fail
      refine hK.out _ _ (HEr.out _ hr2) (fun hHeld => ?_)
      clear hK K
      try go_frame
      refine wpAnyH_takeD (some 85) (i := 11) (v := ?vh3_11) rfl rfl (by kernel_rfl) (by kernel_rfl) (by kernel_rfl) (fun _ _ _ h => h) (by rfl) ?hh3_11 (by assumption) ?_
      case hh3_11 => (intro wq hSw; (try dsimp only at hSw); go_simp; (try (with_reducible rfl)))
      go_frame
      refine wpAnyH_takeD (some 86) (i := 12) (v := ?vh3_12) rfl rfl (by kernel_rfl) (by kernel_rfl) (by kernel_rfl) (fun _ _ _ h => h) (by rfl) ?hh3_12 (by assumption) ?_
      case hh3_12 => (intro wq hSw; (try dsimp only at hSw); go_simp; (try (with_reducible rfl)))
      go_frame
      refine wpAnyH_done (by kernel_rfl) ?_ _
      refine NoPanic.normal ?_
      have hbq := hbr.trans (hr2.mono hbr.size)
      clear hr0 hr1 hr2 HEr HV3p HV3k hbr hbw hb00
      try go_frame
      go_upto_region 14 with fail
      have hbN := hbq
      obtain ⟨t0, t1, t2, t3⟩ := HRows.out _ hbN
      go_upto_region 15 with (first
        | (refine Great.wpList_readTo rfl (some 89) rfl (.agg X) (HBX.out (.tmp 87) (.tmp 88) rfl rfl rfl _) ?_)
        | (refine wpList_store_blk rfl 34 (.tmp 23) (.tmp 89) rfl (v2).heap.size X rfl rfl 34 zeroSc (Blk.new (v2) _ _) (by rw [HX.out.1]; rfl) (by rw [HX.out.1]; exact size_sg) HX.out.2 ?_; intro wy hY hgy hsy))
      have hbNy : Below (v2).heap.size (v2) wy := ((Below.refl _ _).alloc (Nat.le_refl _) _).grown hgy (by simp) (fun j hj => by injection hj with hj; subst hj; exact Nat.le_refl _)
      have hbY := hbN.trans (hbNy.mono hbN.size)
      have hbwY := hbW.trans (hbY.mono hbW.size)
      obtain ⟨gy, hgyE⟩ : ∃ g, g = (v2).heap.size := ⟨_, rfl⟩
      rw [← hgyE] at hY ⊢
      have HE : Hid (∀ U, Below wy.heap.size wy U → rowAt U p1 0 8 = some key.cells ∧ rowAt U gy 0 23 = some X) := fun U hU => ⟨(HRows.out U (hbY.trans (hU.mono hbY.size))).2.1, (hY.below hU hY.lt).row 23 HX.out.1⟩
      have hbZ : Below wy.heap.size wy wy := Below.refl _ _
      clear hgyE hY hgy hsy hbNy t0 t1 t2 t3 HBX 
      try go_frame
      refine wp_region_noPanic ?_
      refine wp_region_held_drew (S := fun w' => rowAt w' p1 0 8 = some key.cells ∧ rowAt w' gy 0 23 = some X) (by kernel_rfl) (HE.out _ hbZ.drew) (fun hHeld => ?_)
      refine wpAnyH_takeD (some 90) (i := 0) (v := ?vh4_0) rfl rfl (by kernel_rfl) (by kernel_rfl) (by kernel_rfl) (fun _ _ _ h => h) (by rfl) ?hh4_0 (by assumption) ?_
      case hh4_0 => (intro wq hSw; (try dsimp only at hSw); go_simp; (try (with_reducible rfl)))
      go_frame
      refine wpAnyH_takeD (some 91) (i := 1) (v := ?vh4_1) rfl rfl (by kernel_rfl) (by kernel_rfl) (by kernel_rfl) (fun _ _ _ h => h) (by rfl) ?hh4_1 (by assumption) ?_
      case hh4_1 => (intro wq hSw; (try dsimp only at hSw); go_simp; (try (with_reducible rfl)))
      go_frame
      refine wpAnyH_takeD (some 93) (i := 3) (v := ?vh4_3) rfl rfl (by kernel_rfl) (by kernel_rfl) (by kernel_rfl) (fun _ _ _ h => h) (by rfl) ?hh4_3 (by assumption) ?_
      case hh4_3 => (intro wq hSw; (try dsimp only at hSw); go_simp; (try (with_reducible rfl)))
      go_frame
      refine wpAnyH_takeD (some 94) (i := 4) (v := ?vh4_4) rfl rfl (by kernel_rfl) (by kernel_rfl) (by kernel_rfl) (fun _ _ _ h => h) (by rfl) ?hh4_4 (by assumption) ?_
      case hh4_4 => (intro wq hSw; (try dsimp only at hSw); go_simp; (try (with_reducible rfl)))
      go_frame
      refine wpAnyH_ready (rs := [2]) (by kernel_rfl) (by simp) ?_
      refine AllReadyH.cons rfl (fun K hK => ?_) AllReadyH.nil
      go_simp
      refine (HT1.out _ (hbwY.trans ((hbZ.drew).mono hbwY.size))).mono ?_; rintro en v0 ⟨rfl, he0⟩; have hz0 := (hbZ.drew).trans (he0.mono (hbZ.drew).size); clear he0
      go_wp2_with fail
      refine hK.out _ _ (HE.out _ hz0) (fun hHeld => ?_)
      clear hK K
      try go_frame
      refine wpAnyH_ready (rs := [5]) (by kernel_rfl) (by simp) ?_
      refine AllReadyH.cons rfl (fun K hK => ?_) AllReadyH.nil
      go_simp
      refine (HT2.out _ (hbwY.trans ((hz0).mono hbwY.size))).mono ?_; rintro en v1 ⟨rfl, he1⟩; have hz1 := (hz0).trans (he1.mono (hz0).size); clear he1
      go_wp2_with fail
      refine hK.out _ _ (HE.out _ hz1) (fun hHeld => ?_)
      clear hK K
      try go_frame
      refine wpAnyH_takeD (some 96) (i := 6) (v := ?vh4_6) rfl rfl (by kernel_rfl) (by kernel_rfl) (by kernel_rfl) (fun _ _ _ h => h) (by rfl) ?hh4_6 (by assumption) ?_
      case hh4_6 => (intro wq hSw; (try dsimp only at hSw); go_simp; (try (with_reducible rfl)))
      go_frame
      refine wpAnyH_takeD (some 97) (i := 7) (v := ?vh4_7) rfl rfl (by kernel_rfl) (by kernel_rfl) (by kernel_rfl) (fun _ _ _ h => h) (by rfl) ?hh4_7 (by assumption) ?_
      case hh4_7 => (intro wq hSw; (try dsimp only at hSw); go_simp; (try (with_reducible rfl)))
      go_frame
      refine wpAnyH_ready (rs := [8]) (by kernel_rfl) (by simp) ?_
      refine AllReadyH.cons rfl (fun K hK => ?_) AllReadyH.nil
      go_simp
      refine (HAw.out _).mono ?_; rintro en v2 ⟨rfl, he2⟩; have hz2 := (hz1).trans (he2.mono (hz1).size); clear he2
      go_wp2_with fail
      refine hK.out _ _ (HE.out _ hz2) (fun hHeld => ?_)
      clear hK K
      try go_frame
      refine wpAnyH_takeD (some 99) (i := 9) (v := ?vh4_9) rfl rfl (by kernel_rfl) (by kernel_rfl) (by kernel_rfl) (fun _ _ _ h => h) (by rfl) ?hh4_9 (by assumption) ?_
      case hh4_9 => (intro wq hSw; (try dsimp only at hSw); go_simp; (try (with_reducible rfl)))
      go_frame
      refine wpAnyH_takeD (some 16) (i := 10) (v := ?vh4_10) rfl rfl (by kernel_rfl) (by kernel_rfl) (by kernel_rfl) (fun _ _ _ h => h) (by rfl) ?hh4_10 (by assumption) ?_
      case hh4_10 => (intro wq hSw; (try dsimp only at hSw); go_simp; (try (with_reducible rfl)))
      go_frame
      refine wpAnyH_done (by kernel_rfl) ?_ _
      refine NoPanic.normal ?_
      go_wp2
      go_ret
      exact ⟨by simp, hbwY.trans (hz2.mono hbwY.size)⟩

theorem lverif_any (s key : Nm) (leaf : Int) (v x : Vt) (R : Option Addr) (cr : Nat) (raw : List UInt8) (pos : Int) (by_ : UInt8) (w : World) (hv : v.ok) (hx : x.ok) (hcr : raw.length ≤ cr) (hcm : cr ≤ maxLen) (hR : Rd w w.heap.size R (raw.map B)) (hsm : raw.length ≤ 140737488351232) :
    Calls Tryz.prog 4 #[s.val, key.val, .int .i64 leaf, v.val, x.val, .slice R raw.length cr, .int .i64 pos, B by_] w fun e w' => e = .returned (.bool true) ∧ Below w.heap.size w w' := by
  by_cases hy : ValidP v
  · exact lverif_yes s key leaf v x R raw.length cr raw pos by_ w hv hx hy rfl hcr hcm hR hsm
  · exact lverif_bad s key leaf v x R raw.length cr raw pos by_ w hv hx hy rfl hcr hcm hR hsm
end Go.Proofs.YthmecidpjlaonaaGreat
namespace Go.Proofs.YthmecidpjlaonaaGreat.signedVerifies
open Go.ChangeShapes Go.WideShapes Go.ChangeAt Go.RowKit

theorem own : ownKnob Tryz.prog.godebug = none := by kernel_rfl
theorem laidOut : laidOutB Tryz.prog = true := by kernel_rfl

set_option maxRecDepth 100000 in
set_option maxHeartbeats 1000000 in
theorem lifted (os : Os) (started : os.Started) (H : Type) (enc : TypeId × Value → H) :
    ReturnsInHanded {} Tryz.checked os 4 .any (Rows.signedVerifiesSpec.pre6 enc Tryz.prog Tryz.f4 Rows.signedVerifiesRow.domain false) (Rows.signedVerifiesSpec.post enc Tryz.prog Tryz.f4 false true false false) := by
  refine returnsInHanded_of_change_sized (C := Tryz.checked) own started (by kernel_rfl) Tryz.func4
    (ChangeSpec.witness6 (enc := enc) (C := Tryz.checked) false ⟨#[], #[.agg zero8, .agg zero8, .int .i64 0, .agg zeroVc, .agg zeroVc, .slice none 0 0, .int .i64 0, .int .u8 0], []⟩ 8 (by kernel_rfl) (by kernel_rfl) (by kernel_rfl) (by kernel_rfl)) ?_
  intro W base args ds gs before hval0 hW hcnd hsz0 _
  have hval : ∀ (j : Nat) t v, Tryz.f4.params[j]? = some t → args[j]? = some v → Value.okWide Tryz.prog W .any base t v := hval0
  have hW' := hW
  obtain ⟨p, q, hA0, hV, rfl, hfz, hnd⟩ := hW
  have hA : DataW.TrodAll enc Tryz.prog W 0 (fun _ => true) true Tryz.f4.params.toList args.toList ds p := hA0
  have hsz : (DataW.weightsEach Tryz.prog (Tryz.f4.params.toList ++ Rows.signedVerifiesSpec.plain.varTypes Tryz.prog) (ds ++ gs)).all (· ≤ reachBytes) = true := hsz0
  rw [Tryz.params4] at hA hval hsz
  obtain ⟨v0, vs0, d0, ds0, p0, q0, hargs, rfl, rfl, h0, r0⟩ := trodAll_cons hA
  obtain ⟨v1, vs1, d1, ds1, p1, q1, ha1, rfl, rfl, h1, r1⟩ := trodAll_cons r0
  subst ha1
  obtain ⟨v2, vs2, d2, ds2, p2, q2, ha2, rfl, rfl, h2, r2⟩ := trodAll_cons r1
  subst ha2
  obtain ⟨v3, vs3, d3, ds3, p3, q3, ha3, rfl, rfl, h3, r3⟩ := trodAll_cons r2
  subst ha3
  obtain ⟨v4, vs4, d4, ds4, p4, q4, ha4, rfl, rfl, h4, r4⟩ := trodAll_cons r3
  subst ha4
  obtain ⟨v5, vs5, d5, ds5, p5, q5, ha5, rfl, rfl, h5, r5⟩ := trodAll_cons r4
  subst ha5
  obtain ⟨v6, vs6, d6, ds6, p6, q6, ha6, rfl, rfl, h6, r6⟩ := trodAll_cons r5
  subst ha6
  obtain ⟨v7, vs7, d7, ds7, p7, q7, ha7, rfl, rfl, h7, r7⟩ := trodAll_cons r6
  subst ha7
  obtain ⟨rfl, rfl, rfl⟩ := trodAll_nil r7
  obtain rfl : args = #[v0, v1, v2, v3, v4, v5, v6, v7] := by cases args; simp_all
  obtain ⟨rfl, rfl⟩ := trodVars_none hV
  have hwt : ∀ k ∈ DataW.weightsEach Tryz.prog ([29, 29, 3, 31, 31, 32, 3, 5] ++ Rows.signedVerifiesSpec.plain.varTypes Tryz.prog) ([d0, d1, d2, d3, d4, d5, d6, d7] ++ []), k ≤ reachBytes := fun k hk => by simpa using List.all_eq_true.1 hsz k hk
  have k0 := h0
  have lt0 : ∀ x ∈ p0, x.block < W.heap.size := by obtain ⟨m, hm⟩ := k0; exact DataW.trod_lt m _ _ _ hm
  obtain ⟨s0, hv0⟩ : ∃ s : Nm, v0.cells.toList = s.cells.toList := by
    obtain ⟨fuel, hf⟩ := h0
    exact open_name hf
  obtain ⟨cs0, hag0⟩ := okWide_array Tryz.underlying29 (hval 0 29 v0 rfl rfl)
  obtain rfl := agg_of hag0 hv0
  clear hag0 hv0
  have k1 := h1
  have lt1 : ∀ x ∈ p1, x.block < W.heap.size := by obtain ⟨m, hm⟩ := k1; exact DataW.trod_lt m _ _ _ hm
  obtain ⟨s1, hv1⟩ : ∃ s : Nm, v1.cells.toList = s.cells.toList := by
    obtain ⟨fuel, hf⟩ := h1
    exact open_name hf
  obtain ⟨cs1, hag1⟩ := okWide_array Tryz.underlying29 (hval 1 29 v1 rfl rfl)
  obtain rfl := agg_of hag1 hv1
  clear hag1 hv1
  have k2 := h2
  have lt2 : ∀ x ∈ p2, x.block < W.heap.size := by obtain ⟨m, hm⟩ := k2; exact DataW.trod_lt m _ _ _ hm
  obtain ⟨n2, hv2, _, hw2⟩ : ∃ n : Int, v2.cells.toList = [.int .i64 n] ∧ True ∧ (Lit.int .i64 n).wf = true := by
    obtain ⟨fuel, hf⟩ := h2
    obtain ⟨n, e, _, hw⟩ := DataW.trod_int Tryz.underlying3 hf
    exact ⟨n, e, trivial, hw⟩
  obtain ⟨m2, rfl⟩ := okWide_int Tryz.underlying3 (hval 2 3 v2 rfl rfl)
  simp [Value.cells] at hv2
  subst hv2
  have k3 := h3
  have lt3 : ∀ x ∈ p3, x.block < W.heap.size := by obtain ⟨m, hm⟩ := k3; exact DataW.trod_lt m _ _ _ hm
  obtain ⟨s3, hv3, hok3⟩ : ∃ s : Vt, v3.cells.toList = s.cells.toList ∧ s.ok := by
    obtain ⟨fuel, hf⟩ := h3
    exact open_vote hf
  obtain ⟨cs3, hag3, _⟩ := okWide_struct Tryz.underlying31 (hval 3 31 v3 rfl rfl)
  obtain rfl := agg_of hag3 hv3
  clear hag3 hv3
  have k4 := h4
  have lt4 : ∀ x ∈ p4, x.block < W.heap.size := by obtain ⟨m, hm⟩ := k4; exact DataW.trod_lt m _ _ _ hm
  obtain ⟨s4, hv4, hok4⟩ : ∃ s : Vt, v4.cells.toList = s.cells.toList ∧ s.ok := by
    obtain ⟨fuel, hf⟩ := h4
    exact open_vote hf
  obtain ⟨cs4, hag4, _⟩ := okWide_struct Tryz.underlying31 (hval 4 31 v4 rfl rfl)
  obtain rfl := agg_of hag4 hv4
  clear hag4 hv4
  have k5 := h5
  have lt5 : ∀ x ∈ p5, x.block < W.heap.size := by obtain ⟨m, hm⟩ := k5; exact DataW.trod_lt m _ _ _ hm
  obtain ⟨A5, l5, cap5, hv5, hr5, hl5, hm5, hz5⟩ : ∃ (A : Option Addr) (l : List UInt8) (cap : Nat), v5.cells.toList = [.slice A l.length cap] ∧ Rd W W.heap.size A (l.map B) ∧ l.length ≤ cap ∧ cap ≤ maxLen ∧ l.length ≤ 140737488351232 := by
    obtain ⟨fuel, hf⟩ := h5
    exact open_bytes hf (mem_weightsEach hwt (j := 5) (t := 32) rfl rfl)
  obtain ⟨a5, len5, c5, rfl⟩ := okWide_slice Tryz.underlying32 (hval 5 32 v5 rfl rfl)
  simp [Value.cells] at hv5
  obtain ⟨rfl, rfl, rfl⟩ := hv5
  have k6 := h6
  have lt6 : ∀ x ∈ p6, x.block < W.heap.size := by obtain ⟨m, hm⟩ := k6; exact DataW.trod_lt m _ _ _ hm
  obtain ⟨n6, hv6, _, hw6⟩ : ∃ n : Int, v6.cells.toList = [.int .i64 n] ∧ True ∧ (Lit.int .i64 n).wf = true := by
    obtain ⟨fuel, hf⟩ := h6
    obtain ⟨n, e, _, hw⟩ := DataW.trod_int Tryz.underlying3 hf
    exact ⟨n, e, trivial, hw⟩
  obtain ⟨m6, rfl⟩ := okWide_int Tryz.underlying3 (hval 6 3 v6 rfl rfl)
  simp [Value.cells] at hv6
  subst hv6
  have k7 := h7
  have lt7 : ∀ x ∈ p7, x.block < W.heap.size := by obtain ⟨m, hm⟩ := k7; exact DataW.trod_lt m _ _ _ hm
  obtain ⟨n7, hv7⟩ : ∃ b : UInt8, v7.cells.toList = [B b] := by
    obtain ⟨fuel, hf⟩ := h7
    exact open_byte hf
  obtain ⟨m7, rfl⟩ := okWide_int Tryz.underlying5 (hval 7 5 v7 rfl rfl)
  simp [Value.cells] at hv7
  subst hv7
  clear hA0 hval0
  refine (lverif_any s0 s1 m2 s3 s4 a5 c5 l5 m6 n7 W hok3 hok4 hl5 hm5 hr5 hz5).mono fun e W' ⟨he, bel⟩ => ?_
  subst he
  exact ⟨_, rfl, _, _, _, [], _, [], hW', trodAll_mk1 (shut_bool Tryz.underlying4 _), (trodAll_cons_mk (Below.trod laidOut (by kernel_rfl) (of_decide_eq_true (by kernel_rfl)) k0 bel lt0) (trodAll_cons_mk (Below.trod laidOut (by kernel_rfl) (of_decide_eq_true (by kernel_rfl)) k1 bel lt1) (trodAll_cons_mk (Below.trod laidOut (by kernel_rfl) (of_decide_eq_true (by kernel_rfl)) k2 bel lt2) (trodAll_cons_mk (Below.trod laidOut (by kernel_rfl) (of_decide_eq_true (by kernel_rfl)) k3 bel lt3) (trodAll_cons_mk (Below.trod laidOut (by kernel_rfl) (of_decide_eq_true (by kernel_rfl)) k4 bel lt4) (trodAll_cons_mk (Below.trod laidOut (by kernel_rfl) (of_decide_eq_true (by kernel_rfl)) k5 bel lt5) (trodAll_cons_mk (Below.trod laidOut (by kernel_rfl) (of_decide_eq_true (by kernel_rfl)) k6 bel lt6) (trodAll_cons_mk (Below.trod laidOut (by kernel_rfl) (of_decide_eq_true (by kernel_rfl)) k7 bel lt7) trodAll_mk0)))))))), rfl, bel.frame _, fun h => by cases h⟩

theorem over : Rows.signedVerifiesRow.holds Tryz.pinned (OpenSpec.ofChange Rows.signedVerifiesSpec) :=
  OpenClaim.holds_of_wide 4 Tryz.f4 rfl rfl rfl rfl rfl rfl rfl ⟨rfl, rfl, rfl, rfl, rfl⟩ rfl rfl rfl rfl rfl (by kernel_rfl) Tryz.func4 closed
    (of_decide_eq_true (by kernel_rfl)) (by unfold Func.isWrapper; first | (rw [if_pos (by decide +kernel)]; kernel_rfl) | (rw [if_neg (by decide +kernel)]; exact ⟨rfl, rfl⟩))
    (fun os started H enc _ => lifted os started H enc)

theorem proved : Rows.SignedVerifiesSaid := over
end Go.Proofs.YthmecidpjlaonaaGreat.signedVerifies
