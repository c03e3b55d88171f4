/-
  signed.Sign refuses a leaf beyond the capacity of its key; the sanity check of the statements of layer 8 returns true. No condition.
  The sanity check of the statements of layer 8 returns true. No condition.
-/
import Derived.Test.YthmecidpjlaonaaGreatGSgn3
import Derived.Test.YthmecidpjlaonaaGreatGPCan
import Derived.Great.Walk
namespace Go.Proofs.YthmecidpjlaonaaGreat
open Go.RowKit
attribute [local go_sem ↓] Go.wp_at_zero Go.wp_at_succ loadNm loadVt loadSg loadEv
attribute [local go_sem] runNm runVt runSg runEv pickRow_some rowAt_drew rowAt_drewN

set_option maxRecDepth 100000 in
set_option maxHeartbeats 2000000 in
theorem sign_no (s : Nm) (leaf : Int) (v : Vt) (w : World) (hv : v.ok) (hl : leaf < 0 ∨ 1024 ≤ leaf) (hy : ValidP v) : Calls Tryz.prog 60 #[s.val, .int .i64 leaf, v.val] w (SgNo w) := by
  obtain ⟨w1, hw1⟩ : ∃ w1, w1 = ((w.alloc (.cells s.cells 29)).alloc (.cells v.cells 31)).alloc (.cells zeroSc 34) := ⟨_, rfl⟩
  have hbw : Below w.heap.size w w1 := by rw [hw1]; exact (((Below.refl _ _).alloc (Nat.le_refl _) _).alloc (by simp) _).alloc (by simp; omega) _
  have HBs : Hid (Blk w1 w.heap.size 29 s.cells) := by unfold Hid; rw [hw1]; exact ((Blk.new w _ _).alloc _).alloc _
  have HBv : Hid (Blk w1 (w.heap.size + 1) 31 v.cells) := by
    unfold Hid; rw [hw1]
    have := (Blk.new (w.alloc (.cells s.cells 29)) 31 v.cells).alloc (.cells zeroSc 34)
    simpa using this
  have HBr : Hid (Blk w1 (w.heap.size + 2) 34 zeroSc) := by
    unfold Hid; rw [hw1]
    have := Blk.new ((w.alloc (.cells s.cells 29)).alloc (.cells v.cells 31)) 34 zeroSc
    simpa using this
  obtain ⟨r, hr⟩ : ∃ r, r = w.heap.size + 2 := ⟨_, rfl⟩
  obtain ⟨q, hq⟩ : ∃ q, q = w.heap.size + 1 := ⟨_, rfl⟩
  obtain ⟨p, hp⟩ : ∃ p, p = w.heap.size := ⟨_, rfl⟩
  rw [← hr] at HBr
  rw [← hq] at HBv
  rw [← hp] at HBs
  have hrw : w.heap.size ≤ r := by omega
  have hpr : p ≠ r := by omega
  have hqr : q ≠ r := by omega
  have HRows : Hid (∀ V, Below w1.heap.size w1 V → rowAt V p 0 8 = some s.cells ∧ rowAt V q 0 22 = some v.cells) := fun V hV => ⟨(HBs.out.below hV HBs.out.lt).row 8 rfl, (HBv.out.below hV HBv.out.lt).row 22 rfl⟩
  have HNK := Lib.hid (fun W => newKey_any s W)
  have HSW := Lib.hid (fun (h m : Nat) (W : World) (hW : Blk W h 172 (keyCells s m)) => signWith_no s h m leaf v W hv hW hl hy)
  clear hv hl hy
  have hbx : Below w1.heap.size w1 w1 := Below.refl _ _
  go_enter Tryz.func60, Tryz.ntmps60
  go_upto_region 1 with fail
  rw [← hw1, ← hr, ← hq, ← hp]
  clear hw1 hr hq hp
  refine wp_region_noPanic ?_
  refine wp_region_held_drew (S := fun w' => rowAt w' p 0 8 = some s.cells ∧ rowAt w' q 0 22 = some v.cells) (by kernel_rfl) (HRows.out _ hbx.drew) (fun hHeld => ?_)
  refine wpAnyH_takeD (some 8) (i := 0) (v := ?vh1_0) rfl rfl (by kernel_rfl) (by kernel_rfl) (by kernel_rfl) (fun _ _ _ h => h) (by rfl) ?hh1_0 (by assumption) ?_
  case hh1_0 => (intro wq hSw; (try dsimp only at hSw); go_simp; (try (with_reducible rfl)))
  go_frame
  refine wpAnyH_takeD (some 10) (i := 2) (v := ?vh1_2) rfl rfl (by kernel_rfl) (by kernel_rfl) (by kernel_rfl) (fun _ _ _ h => h) (by rfl) ?hh1_2 (by assumption) ?_
  case hh1_2 => (intro wq hSw; (try dsimp only at hSw); go_simp; (try (with_reducible rfl)))
  go_frame
  refine wpAnyH_takeD (some 11) (i := 3) (v := ?vh1_3) rfl rfl (by kernel_rfl) (by kernel_rfl) (by kernel_rfl) (fun _ _ _ h => h) (by rfl) ?hh1_3 (by assumption) ?_
  case hh1_3 => (intro wq hSw; (try dsimp only at hSw); go_simp; (try (with_reducible rfl)))
  go_frame
  refine wpAnyH_ready (rs := [1]) (by kernel_rfl) (by simp) ?_
  refine AllReadyH.cons rfl (fun K hK => ?_) AllReadyH.nil
  go_simp
  refine (HNK.out _).mono ?_; rintro en w2 ⟨h, m, rfl, hh1, hm1, hhm, hBk, hmap, hb2⟩; have hbx2 := hbx.drew.trans (hb2.mono (Nat.le_refl _)); have HBk := Lib.hid hBk; clear hh1 hm1 hhm hBk hmap
  go_wp2_with fail
  refine hK.out _ _ (HRows.out _ hbx2) (fun hHeld => ?_)
  clear hK K
  try go_frame
  refine wpAnyH_ready (rs := [4]) (by kernel_rfl) (by simp) ?_
  refine AllReadyH.cons rfl (fun K hK => ?_) AllReadyH.nil
  go_simp
  refine (HSW.out _ _ _ HBk.out).mono ?_; rintro en w3 ⟨rfl, hb3⟩; have hbx3 := hbx2.trans (hb3.mono hbx2.size); have HBr3 := Lib.hid (HBr.out.below hbx3 HBr.out.lt)
  go_wp2_with fail
  refine hK.out _ _ (HRows.out _ hbx3) (fun hHeld => ?_)
  clear hK K
  try go_frame
  refine wpAnyH_takeD (some 13) (i := 5) (v := ?vh1_5) rfl rfl (by kernel_rfl) (by kernel_rfl) (by kernel_rfl) (fun _ _ _ h => h) (by rfl) ?hh1_5 (by assumption) ?_
  case hh1_5 => (intro wq hSw; (try dsimp only at hSw); go_simp; (try (with_reducible rfl)))
  go_frame
  refine wpAnyH_takeD (some 14) (i := 6) (v := ?vh1_6) rfl rfl (by kernel_rfl) (by kernel_rfl) (by kernel_rfl) (fun _ _ _ h => h) (by rfl) ?hh1_6 (by assumption) ?_
  case hh1_6 => (intro wq hSw; (try dsimp only at hSw); go_simp; (try (with_reducible rfl)))
  go_frame
  refine wpAnyH_ready (rs := [7]) (by kernel_rfl) (by simp) ?_
  refine AllReadyH.cons rfl (fun K hK => ?_) AllReadyH.nil
  rw [if_pos (by rfl)]
  refine wp_store_blk 34 (.tmp 6) (.tmp 13) (by rfl) r zeroSc (by rfl) (by rfl) 34 zeroSc HBr3.out rfl size_sg (fun u hu => one_zs hu) (by rfl) ?_; intro w4 hR4 hg4 hsz4; have HRows4 : Hid (rowAt w4 p 0 8 = some s.cells ∧ rowAt w4 q 0 22 = some v.cells) := ⟨(((HBs.out.below hbx3 HBs.out.lt).kept hg4 (by simpa using hpr))).row 8 rfl, (((HBv.out.below hbx3 HBv.out.lt).kept hg4 (by simpa using hqr))).row 22 rfl⟩
  refine hK.out _ _ (HRows4.out) (fun hHeld => ?_)
  clear hK K
  try go_frame
  refine wpAnyH_takeD (some 7) (i := 8) (v := ?vh1_8) rfl rfl (by kernel_rfl) (by kernel_rfl) (by kernel_rfl) (fun _ _ _ h => h) (by rfl) ?hh1_8 (by assumption) ?_
  case hh1_8 => (intro wq hSw; (try dsimp only at hSw); go_simp; (try (with_reducible rfl)))
  go_frame
  refine wpAnyH_done (by kernel_rfl) ?_ _
  refine NoPanic.normal ?_
  have hbw3 := hbw.trans (hbx3.mono hbw.size)
  go_wp2_with fail
  exact bodyPost_ret (results_row_tmp (g := r) (cs := zeroSc) rfl _ _ _ _ _ rfl hR4 Tryz.underlying34 rfl size_sg) rfl ⟨rfl, hbw3.grown hg4 hbw3.size (by rintro j ⟨⟩; omega)⟩

abbrev awV : Vt := ⟨3, 0, 1, 0, 1, 0, Nm.zero, Nm.zero⟩
theorem awV_valid : ValidP awV := by decide
theorem awV_ok : awV.ok := by unfold Vt.ok; decide
theorem aw_can : canF [((awV, []) : VS), (awV, [1])] = [(awV, [])] := by
  have h : IsCan [((awV, []) : VS), (awV, [1])] [(awV, [])] := ⟨List.pairwise_singleton _ _, fun x hx => by rw [List.mem_singleton.1 hx]; simp, fun x hx => ⟨(awV, []), by simp, by
    rcases List.mem_cons.1 hx with rfl | hx
    · exact ⟨rfl, rfl⟩
    · rw [List.mem_singleton.1 hx]; exact ⟨rfl, rfl⟩⟩⟩
  exact ((canF_is _).unique h)
end Go.Proofs.YthmecidpjlaonaaGreat
namespace Go.Proofs.YthmecidpjlaonaaGreat
open Go.RowKit
attribute [local go_sem ↓] Go.wp_at_zero Go.wp_at_succ loadNm loadVt loadSg loadEv
attribute [local go_sem] runNm runVt runSg runEv pickRow_some rowAt_drew rowAt_drewN

/-- A slice literal of two structs. -/
theorem wpList_build2 {P : Program} {ops : Array Oper} {rest : List Oper} {o : Oper} {a : Act} {w : World} {Q : Exit → Act → World → Prop} (hg : o.guard = none) (t e : TypeId) (x y : Operand) (ho : o.op = .buildSlice t 2 #[(0, x), (1, y)])
    (cs ds : Array Value) (hx : a.eval x = .agg cs) (hy : a.eval y = .agg ds) (hu : P.underlying t = some (.slice e)) (hi : (P.info? e).map (fun i => (i.zero.isSome, i.size)) = some (true, cs.size)) (hds : ds.size = cs.size) (hpos : 0 < cs.size) (hsm : cs.size ≤ 1000)
    (h : wpList P ops Q rest (a.put o.dst (.slice (some ⟨w.heap.size, 0, none⟩) 2 2)) (w.alloc (.cells (cs ++ ds) e))) : wpList P ops Q (o :: rest) a w := by
  cases hie : P.info? e with
  | none => simp [hie] at hi
  | some ie =>
    simp only [hie, Option.map_some, Option.some.injEq, Prod.mk.injEq] at hi
    obtain ⟨hz, hsz⟩ := hi
    obtain ⟨z, hzz⟩ := Option.isSome_iff_exists.1 hz
    refine wpList_buildSlice hg t e 2 #[(0, x), (1, y)] ho (cs ++ ds) ie z hu hie hzz (by rw [hsz]; omega) (by rw [hsz]; omega) ?_ h
    have hf := Great.fill_whole (s := ie.size) (by rw [hsz]; exact hpos) [Value.agg cs, Value.agg ds] ((Array.range (2 * ie.size)).map (z.cells[· % z.cells.size]!)) (by
      intro v hv
      rcases List.mem_cons.1 hv with rfl | hv
      · rw [hsz]; rfl
      · rw [List.mem_singleton.1 hv, hsz, ← hds]; rfl) (by simp)
    have ev : (#[(0, x), (1, y)].map fun ((i, x) : Nat × Operand) => (i, a.eval x)).toList = ([Value.agg cs, Value.agg ds].zipIdx 0).map fun x => (x.2, x.1) := by simp [hx, hy]
    rw [ev, hf]
    simp [Value.cells]

set_option maxRecDepth 100000 in
theorem run_buildSg1 {o : Oper} {a : Act} (v : Vt) (s : Operand) (ho : o.op = .build 34 #[(0, s)]) (hs : a.eval s = .agg v.cells) (w : World) :
    (execOp a.eval o).run Tryz.prog w = .ok (.value (Sg.mk v [] none 0).val) w := by
  unfold Sg.val
  rw [sg_lit]
  unfold execOp
  rw [ho]
  simp only [List.map_toArray, List.map_cons, List.map_nil, hs]
  go_simp
theorem two_rd (w : World) (t : TypeId) (s0 s1 : Sg) : Rd (w.alloc (.cells (s0.cells ++ s1.cells) t)) (w.heap.size + 1) (some ⟨w.heap.size, 0, none⟩) ([s0, s1].flatMap sgc) :=
  Rd.mk (by omega) (fun j u hu => by
    rw [Nat.zero_add, (Blk.new w t (s0.cells ++ s1.cells)).cell j, ← Array.getElem?_toList, Array.toList_append]
    rw [List.flatMap_cons, List.flatMap_cons, List.flatMap_nil, List.append_nil] at hu
    exact hu)
theorem one_s2 {s t : Sg} {u : Value} (h : u ∈ (s.cells ++ t.cells).toList) : u.oneCell' = true := by
  rw [Array.toList_append] at h
  rcases List.mem_append.1 h with h | h
  · exact s.one u h
  · exact t.one u h

set_option maxRecDepth 100000 in
set_option maxHeartbeats 2000000 in
theorem awake8_any (w : World) : Calls Tryz.prog 22 #[] w fun e w' => e = .returned (.bool true) ∧ Below w.heap.size w w' := by
  obtain ⟨V, hV⟩ : ∃ V : Vt, V = awV := ⟨_, rfl⟩
  obtain ⟨Z, hZ⟩ : ∃ Z : Nm, Z = Nm.zero := ⟨_, rfl⟩
  have HS : Hid (∀ W, Calls Tryz.prog 60 #[Z.val, .int .i64 1024, V.val] W (SgNo W)) := fun W => by rw [hZ, hV]; exact sign_no Nm.zero 1024 awV W awV_ok (.inr (by omega)) awV_valid
  have HCan : Hid (canF [((V, []) : VS), (V, [1])] = [(V, [])]) := by unfold Hid; rw [hV]; exact aw_can
  have HVok : Hid V.ok := by unfold Hid; rw [hV]; exact awV_ok
  have hBv : Blk ((w.alloc (.cells Nm.zero.cells 29)).alloc (.cells zeroV.cells 31)) (w.heap.size + 1) 31 zeroV.cells := by
    have := Blk.new (w.alloc (.cells Nm.zero.cells 29)) 31 zeroV.cells
    simpa using this
  have HBv := Lib.hid hBv
  clear hBv
  have hbd : ∀ W, (Instr.build 31 #[(0, .int .i64 3), (2, .int .i64 1), (4, .int .i64 1)]).run Tryz.prog W = .ok awV.val W := fun W => by kernel_rfl
  have HBd : ∀ (o : Oper) (a : Act) (W : World), o.op = .build 31 #[(0, .const (.int .i64 3)), (2, .const (.int .i64 1)), (4, .const (.int .i64 1))] → (execOp a.eval o).run Tryz.prog W = .ok (.value V.val) W := fun o a W ho => by
    unfold execOp
    rw [ho, hV]
    simp only [List.map_toArray, List.map_cons, List.map_nil, Sem.run_bind]
    rw [show (#[(0, a.eval (.const (.int .i64 3))), (2, a.eval (.const (.int .i64 1))), (4, a.eval (.const (.int .i64 1)))] : Array (Nat × Value)) = #[(0, .int .i64 3), (2, .int .i64 1), (4, .int .i64 1)] from rfl, hbd]
    rfl
  have HBd := Lib.hid HBd
  have HVe := Lib.hid hV
  have HZe := Lib.hid hZ
  clear hbd hV hZ
  go_enter Tryz.func22, Tryz.ntmps22
  go_upto_region 3 with (first
    | (refine Great.wpList_readTo rfl (some 5) rfl V.val (HBd.out _ _ _ rfl) ?_)
    | (refine wpList_store_blk rfl 31 (.tmp 2) (.tmp 5) rfl (w.heap.size + 1) V.cells rfl rfl 31 zeroV.cells HBv.out rfl size_vote (fun u hu => one_vt V hu) ?_; intro w2 hV2 hg2 hsz2))
  have hN2 : Blk w2 w.heap.size 29 Z.cells := by rw [HZe.out]; exact ((Blk.new w _ _).alloc _).kept hg2 (by simp)
  have hb2 : Below w.heap.size w w2 := (((Below.refl _ _).alloc (Nat.le_refl _) _).alloc (by simp) _).grown hg2 (by simp; omega) (by rintro k ⟨⟩; omega)
  have x1 : rowAt w2 w.heap.size 0 8 = some Z.cells := hN2.row 8 rfl
  have x2 : rowAt w2 (w.heap.size + 1) 0 22 = some V.cells := hV2.row 22 rfl
  have HV2 := Lib.hid hV2
  have hs2 : w2.heap.size = w.heap.size + 2 := by rw [hsz2]; simp
  obtain ⟨q, hq⟩ : ∃ q, q = w.heap.size + 1 := ⟨_, rfl⟩
  obtain ⟨p, hp⟩ : ∃ p, p = w.heap.size := ⟨_, rfl⟩
  rw [← hq] at x2 HV2 ⊢
  rw [← hp] at x1 ⊢
  have hq2 : q < w2.heap.size := by omega
  have hp2 : w.heap.size < w2.heap.size := by omega
  clear hq hp hs2 hg2 hsz2 hV2 hN2 HBv HBd HVe HZe
  go_frame
  go_upto_region 4 with (first
    | (go_at_call 60; refine (HS.out _).mono ?_; rintro en w3 ⟨rfl, hb3⟩)
    | (refine wpList_store_blk rfl 34 (.tmp 3) (.tmp 10) rfl w3.heap.size zeroSc rfl rfl 34 zeroSc (Blk.new w3 _ _) rfl size_sg (fun u hu => one_zs hu) ?_; intro w4 hR4 hg4 hsz4))
  have hbw3 := hb2.trans (hb3.mono hb2.size)
  have hbw4 : Below w.heap.size w w4 := (hbw3.alloc hbw3.size _).grown hg4 (Nat.le_trans hbw3.size (by simp)) (fun j hj => by injection hj with hj; subst hj; exact hbw3.size)
  have HV4 : Hid (Blk w4 q 31 V.cells) := ((HV2.out.below hb3 hq2).alloc _).kept hg4 (by have := hb3.size; simp; omega)
  have x4 : rowAt w4 q 0 22 = some V.cells := HV4.out.row 22 rfl
  clear hR4 hg4 hsz4 hb3 hbw3 x1 x2 hb2
  try go_frame
  have hbwA : Below w.heap.size w ((w4.alloc (.cells #[.int .u8 1] 5)).alloc (.cells ((Sg.mk V [] none 0).cells ++ (Sg.mk V [1] (some ⟨w4.heap.size, 0, none⟩) 1).cells) 34)) := (hbw4.alloc hbw4.size _).alloc (Nat.le_trans hbw4.size (by simp)) _
  have hRd : Rd ((w4.alloc (.cells #[.int .u8 1] 5)).alloc (.cells ((Sg.mk V [] none 0).cells ++ (Sg.mk V [1] (some ⟨w4.heap.size, 0, none⟩) 1).cells) 34)) (w4.heap.size + 2) (some ⟨w4.heap.size + 1, 0, none⟩) ([Sg.mk V [] none 0, Sg.mk V [1] (some ⟨w4.heap.size, 0, none⟩) 1].flatMap sgc) :=
    by
      have h := two_rd (w4.alloc (.cells #[.int .u8 1] 5)) 34 (Sg.mk V [] none 0) (Sg.mk V [1] (some ⟨w4.heap.size, 0, none⟩) 1)
      rw [show (w4.alloc (.cells #[.int .u8 1] 5)).heap.size = w4.heap.size + 1 from by simp] at h
      exact h
  have hSig : Rd ((w4.alloc (.cells #[.int .u8 1] 5)).alloc (.cells ((Sg.mk V [] none 0).cells ++ (Sg.mk V [1] (some ⟨w4.heap.size, 0, none⟩) 1).cells) 34)) (w4.heap.size + 2) (some ⟨w4.heap.size, 0, none⟩) ([(1 : UInt8)].map B) :=
    Rd.mk (by omega) (fun j u hu => by
      have hB := (Blk.new w4 5 #[.int .u8 1]).alloc (.cells ((Sg.mk V [] none 0).cells ++ (Sg.mk V [1] (some ⟨w4.heap.size, 0, none⟩) 1).cells) 34)
      rw [Nat.zero_add, hB.cell j, show (#[.int .u8 1] : Array Value) = ([(1 : UInt8)].map B).toArray from rfl, List.getElem?_toArray]
      exact hu)
  have hsz : ((w4.alloc (.cells #[.int .u8 1] 5)).alloc (.cells ((Sg.mk V [] none 0).cells ++ (Sg.mk V [1] (some ⟨w4.heap.size, 0, none⟩) 1).cells) 34)).heap.size = w4.heap.size + 2 := by simp
  have hA := pcan_any (some ⟨w4.heap.size + 1, 0, none⟩) 2 2 [Sg.mk V [] none 0, Sg.mk V [1] (some ⟨w4.heap.size, 0, none⟩) 1] ((w4.alloc (.cells #[.int .u8 1] 5)).alloc (.cells ((Sg.mk V [] none 0).cells ++ (Sg.mk V [1] (some ⟨w4.heap.size, 0, none⟩) 1).cells) 34)) rfl (by rw [hsz]; exact hRd) (fun s hs => by
    rw [hsz]
    rcases List.mem_cons.1 hs with rfl | hs
    · exact ⟨⟨HVok.out, .inl rfl, by show 0 ≤ 140737488351232; omega⟩, by unfold SgCap maxLen; exact ⟨Nat.le_refl 0, Nat.zero_le _⟩⟩
    · rw [List.mem_singleton.1 hs]
      exact ⟨⟨HVok.out, hSig, by show 1 ≤ 140737488351232; omega⟩, ⟨Nat.le_refl 1, by show (1 : Nat) ≤ maxLen; unfold maxLen; omega⟩⟩) (by omega)
  have hE2 : (Sg.mk V [] none 0).cells ++ (Sg.mk V [1] (some ⟨w4.heap.size, 0, none⟩) 1).cells = evLit V (.slice none 0 0) V (.slice (some ⟨w4.heap.size, 0, none⟩) 1 1) := ev_lit V [] none 0 V [1] (some ⟨w4.heap.size, 0, none⟩) 1
  rw [hE2] at hA hbwA
  have HA := Lib.hid hA
  have HbwA := Lib.hid hbwA
  clear hA hRd hSig hbwA hE2
  go_wp2_with fail
  refine HA.out.mono ?_
  rintro en w7 ⟨L, v, rfl, hb7, hown, hok, he⟩
  obtain ⟨A7, c7, rfl, _⟩ := own_slice hown rfl hok
  have hL : L.length = 1 := by
    have := congrArg List.length (he.trans HCan.out)
    simpa using this
  rw [hL]
  clear hown hok he hL
  go_wp2_with fail
  go_ret
  exact ⟨rfl, HbwA.out.trans (hb7.mono HbwA.out.size)⟩
end Go.Proofs.YthmecidpjlaonaaGreat
