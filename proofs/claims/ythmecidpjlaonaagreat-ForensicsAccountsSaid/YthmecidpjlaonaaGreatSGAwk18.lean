/-
  The sanity check of the statements of layer 18 returns true, and its cut keeps at most 80 elements. No condition.
-/
import Derived.Test.YthmecidpjlaonaaGreatSGForU
import Derived.Test.YthmecidpjlaonaaGreatSGOrd
import Derived.Great.Walk
namespace Go.Proofs.YthmecidpjlaonaaGreat
open Go.RowKit
attribute [local go_sem ↓] Go.wp_at_zero Go.wp_at_succ loadNm loadVt loadSg loadEv
attribute [local go_sem] runNm runVt runSg runEv pickRow_some rowAt_drew rowAt_drewN
set_option maxRecDepth 100000 in
theorem cut18_any (A : Option Addr) (n c : Nat) (w : World) (hA : 80 < n → A ≠ none) (hc : n ≤ c) : Calls Tryz.prog 25 #[.slice A n c] w fun e w' => e = .returned (.slice A (min n 80) c) ∧ w' = w := by
  by_cases h : 80 < n
  · have d : decide ((80 : Int) < (n : Int)) = true := by simp; omega
    have e : min n 80 = 80 := by omega
    have k : (80 : Int) ≤ (c : Int) := by omega
    rw [e]
    clear e
    rcases A with _ | ⟨b, o, p⟩
    · exact absurd rfl (hA h)
    · go_enter Tryz.func25, Tryz.ntmps25
      go_wp2
      go_ret
      exact ⟨rfl, rfl⟩
  · have d : decide ((80 : Int) < (n : Int)) = false := by simp; omega
    have e : min n 80 = n := by omega
    rw [e]
    clear e
    go_enter Tryz.func25, Tryz.ntmps25
    go_wp2
    go_ret
    exact ⟨rfl, rfl⟩
abbrev awV18 : Vt := ⟨3, 0, 1, 0, 0, 0, Nm.zero, Nm.zero⟩
theorem awV18_ok : awV18.ok := by unfold Vt.ok; decide
set_option maxRecDepth 100000 in
theorem run_sg18 {o : Oper} {a : Act} (v : Vt) (s : Operand) (ho : o.op = .build 34 #[(0, s)]) (hs : a.eval s = .agg v.cells) (w : World) :
    (execOp a.eval o).run Tryz.prog w = .ok (.value (Sg.mk v [] none 0).val) w := by
  unfold Sg.val
  rw [sg_lit]
  unfold execOp
  rw [ho]
  simp only [List.map_toArray, List.map_cons, List.map_nil, hs]
  go_simp
theorem one_rd {W : World} {g t : Nat} {S : Sg} (h : Blk W g t S.cells) : Rd W W.heap.size (some ⟨g, 0, none⟩) ([S].flatMap sgc) :=
  Rd.mk h.lt (fun j u hu => by rw [Nat.zero_add, h.cell j]; simpa [sgc] using hu)
theorem can_two (x : VS) : canF [x, x] = [x] := by
  have h : IsCan [x, x] [x] := ⟨List.pairwise_singleton _ _, fun y hy => by rw [List.mem_singleton.1 hy]; simp, fun y hy => ⟨x, by simp, by
    rcases List.mem_cons.1 hy with rfl | hy
    · exact ⟨rfl, bytesLe_refl _⟩
    · rw [List.mem_singleton.1 hy]; exact ⟨rfl, bytesLe_refl _⟩⟩⟩
  exact ((canF_is _).unique h)

set_option maxRecDepth 100000 in
set_option maxHeartbeats 2000000 in
theorem awake18_any (w : World) : Calls Tryz.prog 35 #[] w fun e w' => e = .returned (.bool true) ∧ Below w.heap.size w w' := by
  obtain ⟨V, hV⟩ : ∃ V : Vt, V = awV18 := ⟨_, rfl⟩
  obtain ⟨S, hS⟩ : ∃ S : Sg, S = Sg.mk V [] none 0 := ⟨_, rfl⟩
  obtain ⟨X, hX⟩ : ∃ X, X = S.cells := ⟨_, rfl⟩
  have HX : Hid (X.size = 23 ∧ ∀ u ∈ X.toList, u.oneCell' = true) := by unfold Hid; rw [hX]; exact ⟨Sg.size_cells _, fun u hu => one_sg _ hu⟩
  have HOk : Hid (∀ U, SgsOk U U.heap.size [S]) := fun U s hs => by
    rw [List.mem_singleton.1 hs, hS, hV]
    exact ⟨⟨awV18_ok, .inl rfl, by show 0 ≤ 140737488351232; omega⟩, by unfold SgCap maxLen; exact ⟨Nat.le_refl 0, Nat.zero_le _⟩⟩
  have HPr : Hid (∀ U, Calls Tryz.prog 31 #[.slice none 0 0, .slice none 0 0, .slice none 0 0] U (RowFalse U)) := fun U => by
    refine (proof_any none none none 0 0 0 0 0 0 [] [] [] U rfl Rd.nil rfl rfl Rd.nil Rd.nil (by omega) (fun s hs => by cases hs) (fun s hs => by cases hs)).mono ?_
    rintro e w' (⟨h, _⟩ | ⟨_, h⟩)
    · exact absurd rfl h
    · exact h
  have HAg : Hid (∀ U, Calls Tryz.prog 33 #[.slice none 0 0, .int .i64 15, .slice none 0 0, .slice none 0 0] U (IntPost U 0)) := fun U =>
    against_any none none none 0 0 0 0 0 0 15 0 [] [] [] U rfl Rd.nil rfl rfl Rd.nil Rd.nil (by omega) (fun s hs => by cases hs) (fun s hs => by cases hs) (by omega) (by rfl)
  have HU : Hid (∀ (g h : Nat) (U : World), Blk U g 34 X → Blk U h 34 X → Calls Tryz.prog 26 #[.slice (some ⟨g, 0, none⟩) 1 1, .slice (some ⟨h, 0, none⟩) 1 1] U fun e w' => ∃ A c, e = .returned (.slice A 1 c) ∧ Below U.heap.size U w') := fun g h U h1 h2 => by
    rw [hX] at h1 h2
    refine (union_any _ _ 1 1 1 1 [S] [S] U rfl rfl (one_rd h1) (one_rd h2) (by omega) (HOk.out U) (HOk.out U)).mono ?_
    rintro e w' ⟨L, v, rfl, hb, hown, hk, he⟩
    have hl : L.length = 1 := by
      have := congrArg List.length (he.trans (can_two S.vs))
      simpa using this
    obtain ⟨A, c, rfl⟩ := own_form hown
    rw [hl]
    exact ⟨A, c, rfl, hb⟩
  have hbd : ∀ W, (Instr.build 31 #[(0, .int .i64 3), (2, .int .i64 1)]).run Tryz.prog W = .ok awV18.val W := fun W => by kernel_rfl
  have HBd : ∀ (o : Oper) (a : Act) (W : World), o.op = .build 31 #[(0, .const (.int .i64 3)), (2, .const (.int .i64 1))] → (execOp a.eval o).run Tryz.prog W = .ok (.value V.val) W := fun o a W ho => by
    unfold execOp
    rw [ho, hV]
    simp only [List.map_toArray, List.map_cons, List.map_nil, Sem.run_bind]
    rw [show (#[(0, a.eval (.const (.int .i64 3))), (2, a.eval (.const (.int .i64 1)))] : Array (Nat × Value)) = #[(0, .int .i64 3), (2, .int .i64 1)] from rfl, hbd]
    rfl
  have HBd := Lib.hid HBd
  have HBs : Hid (∀ {o : Oper} {a : Act} (s : Operand) (_ : o.op = .build 34 #[(0, s)]) (_ : a.eval s = .agg V.cells) (W : World), (execOp a.eval o).run Tryz.prog W = .ok (.value (.agg X)) W) := fun s h1 h2 W => by rw [hX, hS]; exact run_sg18 V s h1 h2 W
  have hi : (Tryz.prog.info? 34).map (fun i => (i.zero.isSome, i.size)) = some (true, X.size) := by rw [HX.out.1]; kernel_rfl
  have HI := Lib.hid hi
  clear hbd hV hS hX hi HOk
  go_enter Tryz.func35, Tryz.ntmps35
  go_upto_region 2 with (first
    | (refine Great.wpList_readTo rfl (some 4) rfl V.val (HBd.out _ _ _ rfl) ?_)
    | (refine Great.wpList_readTo rfl (some 5) rfl (.agg X) (HBs.out (.tmp 4) rfl rfl _) ?_)
    | (refine wpList_store_blk rfl 34 (.tmp 1) (.tmp 5) rfl w.heap.size X rfl rfl 34 zeroSc (Blk.new w _ _) (by rw [HX.out.1]; rfl) (by rw [HX.out.1]; exact size_sg) HX.out.2 ?_; intro w2 hG2 hg2 hs2))
  have hb2 : Below w.heap.size w w2 := ((Below.refl _ _).alloc (Nat.le_refl _) _).grown hg2 (by simp) (fun j hj => by injection hj with hj; subst hj; exact Nat.le_refl _)
  obtain ⟨g, hg⟩ : ∃ g, g = w.heap.size := ⟨_, rfl⟩
  rw [← hg] at hG2 ⊢
  have HG2 := Lib.hid hG2
  clear hg hG2 hg2 hs2
  try go_frame
  go_upto_region 3 with (go_at_call 31; refine (HPr.out _).mono ?_; rintro en w3 ⟨rfl, hb3⟩)
  have hbw3 := hb2.trans (hb3.mono hb2.size)
  have HG3 := Lib.hid (HG2.out.below hb3 HG2.out.lt)
  have x3 : rowAt w3 g 0 23 = some X := HG3.out.row 23 HX.out.1
  have x4 : rowAt (w3.alloc (.cells X 34)) g 0 23 = some X := (HG3.out.alloc _).row 23 HX.out.1
  have HUw := HU.out w3.heap.size (w3.heap.size + 1) ((w3.alloc (.cells X 34)).alloc (.cells X 34)) ((Blk.new w3 _ _).alloc _) (by
    have := Blk.new (w3.alloc (.cells X 34)) 34 X
    simpa using this)
  have HU2 := Lib.hid HUw
  have hbw5 : Below w.heap.size w ((w3.alloc (.cells X 34)).alloc (.cells X 34)) := (hbw3.alloc hbw3.size _).alloc (Nat.le_trans hbw3.size (by simp)) _
  clear HUw hb2 hb3
  try go_frame
  go_wp2_with (first
    | (refine wpList_build1 rfl 23 34 (.tmp 10) rfl X rfl Tryz.underlying23 HI.out (by rw [HX.out.1]; omega) (by rw [HX.out.1]; omega) ?_)
    | (refine wpList_build1 rfl 23 34 (.tmp 12) rfl X rfl Tryz.underlying23 HI.out (by rw [HX.out.1]; omega) (by rw [HX.out.1]; omega) ?_)
    | (go_at_call 26; refine HU2.out.mono ?_; rintro en w6 ⟨A6, c6, rfl, hb6⟩; have hbw6 := hbw5.trans (hb6.mono hbw5.size))
    | (go_at_call 33; refine (HAg.out _).mono ?_; rintro en w7 ⟨rfl, hb7⟩))
  go_ret
  exact ⟨rfl, hbw6.trans (hb7.mono hbw6.size)⟩
end Go.Proofs.YthmecidpjlaonaaGreat
