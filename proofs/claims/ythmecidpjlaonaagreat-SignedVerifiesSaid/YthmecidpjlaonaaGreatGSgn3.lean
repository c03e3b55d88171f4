/-
  manytime.NewKey makes a key; a key's Sign refuses a leaf beyond its capacity, and so does signed.Sign. Condition: none but that the numbers are int64's.
  signed.SignWith and Sign return a vote with the signature of a leaf (sigF), or refuse: a vote that is not valid, a leaf beyond the capacity, a nil key. Condition: none but that the numbers are int64's.
-/
import Derived.Test.YthmecidpjlaonaaGreatGSgn2
import Derived.Test.YthmecidpjlaonaaGreatGDefs
import Derived.Test.YthmecidpjlaonaaGreatGSVer
import Derived.Great.Walk
namespace Go.Proofs.YthmecidpjlaonaaGreat
open Go.RowKit
attribute [local go_sem ↓] Go.wp_at_zero Go.wp_at_succ loadNm loadVt loadSg loadEv
attribute [local go_sem] runNm runVt runSg runEv pickRow_some rowAt_drew rowAt_drewN

set_option maxRecDepth 100000 in
set_option maxHeartbeats 1000000 in
theorem ksign_no (s nm : Nm) (h m : Nat) (leaf : Int) (w : World) (hB : Blk w h 172 (keyCells s m)) (hl : leaf < 0 ∨ 1024 ≤ leaf) :
    Calls Tryz.prog 138 #[.pointer (some ⟨h, 0, none⟩), .int .i64 leaf, nm.val] w (RowFalse w) := by
  have HB := Lib.hid hB
  have hW : Blk (w.alloc (.cells nm.cells 29)) h 172 (keyCells s m) := hB.alloc _
  have c8 : (w.alloc (.cells nm.cells 29)).cell? ⟨h, 8, none⟩ = some (I 2) := hW.cell 8
  have HR := Lib.hid (ready_any s h m _ hW)
  clear hB hW
  by_cases h0 : leaf < 0
  · have d0 : decide (leaf < 0) = true := by simp; omega
    go_enter Tryz.func138, Tryz.ntmps138
    go_wp2_with (go_at_call 168; refine HR.out.mono ?_; rintro en w2 ⟨rfl, rfl⟩)
    go_ret2
    exact ⟨rfl, (Below.refl _ _).alloc (Nat.le_refl _) _⟩
  · have d0 : decide (leaf < 0) = false := by simp; omega
    have d1 : decide (1024 ≤ leaf) = true := by simp; omega
    go_enter Tryz.func138, Tryz.ntmps138
    go_wp2_with ((first
      | (go_at_call 168; refine HR.out.mono ?_; rintro en w2 ⟨rfl, rfl⟩)
      | (go_at_call 93; refine (cap2_any _).mono ?_; rintro en w3 ⟨rfl, rfl⟩)))
    go_ret2
    exact ⟨rfl, (Below.refl _ _).alloc (Nat.le_refl _) _⟩

/-- What a failing Sign returns. -/
def SgNo (w : World) (e : Ending) (w' : World) : Prop := e = .returned (.tuple #[.agg zeroSc, .bool false]) ∧ Below w.heap.size w w'
set_option maxRecDepth 100000 in
set_option maxHeartbeats 2000000 in
theorem signWith_no (s : Nm) (h m : Nat) (leaf : Int) (v : Vt) (w : World) (hv : v.ok) (hB : Blk w h 172 (keyCells s m)) (hl : leaf < 0 ∨ 1024 ≤ leaf) (hy : ValidP v) :
    Calls Tryz.prog 102 #[.pointer (some ⟨h, 0, none⟩), .int .i64 leaf, v.val] w (SgNo w) := by
  obtain ⟨w1, hw1⟩ : ∃ w1, w1 = (w.alloc (.cells v.cells 31)).alloc (.cells zeroSc 34) := ⟨_, rfl⟩
  have hbw : Below w.heap.size w w1 := by rw [hw1]; exact ((Below.refl _ _).alloc (Nat.le_refl _) _).alloc (by simp) _
  have HBk : Hid (Blk w1 h 172 (keyCells s m)) := by unfold Hid; rw [hw1]; exact (hB.alloc _).alloc _
  have HBv : Hid (Blk w1 w.heap.size 31 v.cells) := by unfold Hid; rw [hw1]; exact (Blk.new w _ _).alloc _
  have HBr : Hid (Blk w1 (w.heap.size + 1) 34 zeroSc) := by
    unfold Hid; rw [hw1]
    have := Blk.new (w.alloc (.cells v.cells 31)) 34 zeroSc
    simpa using this
  have HV : Hid (∀ W, Calls Tryz.prog 56 #[v.val] W fun e w' => e = .returned (.bool true) ∧ Below W.heap.size W w') := fun W => valid_yes v W hv hy
  have HNm := Lib.hid (fun W => vname_yes v W hv hy)
  have HS := Lib.hid (fun (nm : Nm) (W : World) (hW : Blk W h 172 (keyCells s m)) => ksign_no s nm h m leaf W hW hl)
  have hs1 : w1.heap.size = w.heap.size + 2 := by rw [hw1]; simp
  have hx : rowAt w1 w.heap.size 0 22 = some v.cells := HBv.out.row 22 rfl
  have hlt : h < w1.heap.size := HBk.out.lt
  clear hB hl hy hv
  go_enter Tryz.func102, Tryz.ntmps102
  go_upto_region 1 with fail
  rw [← hw1]
  clear hw1
  go_wp2_with ((first
    | (go_at_call 56; refine (HV.out _).mono ?_; rintro en w2 ⟨rfl, hb2⟩; have hx2 : rowAt w2 w.heap.size 0 22 = some v.cells := (HBv.out.below hb2 HBv.out.lt).row 22 rfl)
    | (go_at_call 58; refine (HNm.out _).mono ?_; rintro en w3 ⟨rfl, hb3⟩)
    | (go_at_call 138; refine (HS.out _ _ ((HBk.out.below hb2 HBk.out.lt).below hb3 (HBk.out.below hb2 HBk.out.lt).lt)).mono ?_; rintro en w4 ⟨rfl, hb4⟩; have hb24 := hb2.trans ((hb3.trans (hb4.mono hb3.size)).mono hb2.size); have HBr4 := Lib.hid (HBr.out.below hb24 HBr.out.lt))
    | (refine wpList_store_blk rfl 34 (.tmp 6) (.tmp 24) rfl (w.heap.size + 1) zeroSc rfl rfl 34 zeroSc HBr4.out rfl size_sg (fun u hu => one_zs hu) ?_; intro w5 hR5 hg5 hsz5)))
  have hbw4 := hbw.trans (hb24.mono hbw.size)
  exact bodyPost_ret (results_row_tmp (g := w.heap.size + 1) (cs := zeroSc) rfl _ _ _ _ _ rfl hR5 Tryz.underlying34 rfl size_sg) rfl ⟨rfl, hbw4.grown hg5 hbw4.size (by rintro j ⟨⟩; omega)⟩
end Go.Proofs.YthmecidpjlaonaaGreat
namespace Go.Proofs.YthmecidpjlaonaaGreat
open Go.RowKit
attribute [local go_sem ↓] Go.wp_at_zero Go.wp_at_succ loadNm loadVt loadSg loadEv
attribute [local go_sem] runNm runVt runSg runEv pickRow_some rowAt_drew rowAt_drewN

theorem run_sgB {o : Oper} {a : Act} (v : Vt) (sig : List UInt8) (A : Option Addr) (c : Nat) (s t : Operand) (ho : o.op = .build 34 #[(0, s), (1, t)]) (hs : a.eval s = .agg v.cells) (ht : a.eval t = .slice A sig.length c) (w : World) :
    (execOp a.eval o).run Tryz.prog w = .ok (.value (Sg.mk v sig A c).val) w := by
  unfold Sg.val
  rw [sg_lit]
  unfold execOp
  rw [ho]
  simp only [List.map_toArray, List.map_cons, List.map_nil, hs, ht]
  go_simp
/-- What a signed vote in new memory is: the vote, and a signature that lies at base or above. -/
def SgG (base : Nat) (v : Vt) (sig : List UInt8) (cs : Array Value) (w : World) : Prop := ∃ A c, cs = (Sg.mk v sig A c).cells ∧ w.ownsRow base 5 1 (.slice A sig.length c) sig.length (sig.map B)
/-- The call returned the cells cs and a flag. -/
def SWPost (G : Array Value → World → Prop) (ok : Bool) (m : Nat) (w : World) (e : Ending) (w' : World) : Prop :=
  ∃ cs, e = .returned (.tuple #[.agg cs, .bool ok]) ∧ G cs w' ∧ w.grownBy w' (some m)

set_option maxRecDepth 100000 in
set_option maxHeartbeats 4000000 in
theorem signWith_yes (s : Nm) (h m leaf base : Nat) (v : Vt) (w : World) (hv : v.ok) (hk : KeyAt s h m w) (hl : leaf < 1024) (hy : ValidP v) (hbase : base ≤ w.heap.size) :
    Calls Tryz.prog 102 #[.pointer (some ⟨h, 0, none⟩), .int .i64 (leaf : Int), v.val] w (SWPost (SgG base v (sigF s leaf (nameF v))) true m w) := by
  obtain ⟨w1, hw1⟩ : ∃ w1, w1 = (w.alloc (.cells v.cells 31)).alloc (.cells zeroSc 34) := ⟨_, rfl⟩
  have hbw : Below w.heap.size w w1 := by rw [hw1]; exact ((Below.refl _ _).alloc (Nat.le_refl _) _).alloc (by simp) _
  have HK1 := Lib.hid (hk.below hbw)
  have hml := map_base hk
  have HBv : Hid (Blk w1 w.heap.size 31 v.cells) := by unfold Hid; rw [hw1]; exact (Blk.new w _ _).alloc _
  have HBr : Hid (Blk w1 (w.heap.size + 1) 34 zeroSc) := by
    unfold Hid; rw [hw1]
    have := Blk.new (w.alloc (.cells v.cells 31)) 34 zeroSc
    simpa using this
  have HV : Hid (∀ W, Calls Tryz.prog 56 #[v.val] W fun e w' => e = .returned (.bool true) ∧ Below W.heap.size W w') := fun W => valid_yes v W hv hy
  have HNm := Lib.hid (fun W => vname_yes v W hv hy)
  have HS := Lib.hid (fun (nm : Nm) (W : World) (hW : KeyAt s h m W) => ksign_yes s nm h m leaf W hW hl)
  have hx : rowAt w1 w.heap.size 0 22 = some v.cells := HBv.out.row 22 rfl
  obtain ⟨q, hq⟩ : ∃ q, q = w.heap.size := ⟨_, rfl⟩
  obtain ⟨r, hr⟩ : ∃ r, r = w.heap.size + 1 := ⟨_, rfl⟩
  rw [← hq] at HBv hx
  rw [← hr] at HBr
  have hqm : q ≠ m := by omega
  have hrm : r ≠ m := by omega
  have hqr : q ≠ r := by omega
  have HW : Hid (w.heap.size ≤ r) := by unfold Hid; omega
  obtain ⟨nm, hnm⟩ : ∃ nm, nm = nameF v := ⟨_, rfl⟩
  rw [← hnm] at HNm ⊢
  have HS2 := Lib.hid (HS.out nm)
  obtain ⟨sg, hsg⟩ : ∃ sg, sg = sigF s leaf nm := ⟨_, rfl⟩
  have HSg : Hid (sg.length = 370) := by unfold Hid; rw [hsg]; exact sigF_len _ _ _
  have HPo : Hid (∀ W e w', KSgPost s h m leaf nm W e w' → ∃ A c, e = .returned (.tuple #[.slice A 370 c, .bool true]) ∧ w'.ownsRow W.heap.size 5 1 (.slice A 370 c) 370 (sg.map B) ∧ KeyAt s h m w' ∧ W.grownBy w' (some m)) := fun W e w' hp => by rw [hsg]; exact hp
  rw [← hsg]
  clear hk hy hv hnm hsg hl HS
  go_enter Tryz.func102, Tryz.ntmps102
  go_upto_region 1 with fail
  rw [← hw1, ← hr, ← hq]
  clear hw1 hq hr
  go_upto_region 4 with (first
    | (go_at_call 56; refine (HV.out _).mono ?_; rintro en w2 ⟨rfl, hb2⟩; have hx2 : rowAt w2 q 0 22 = some v.cells := (HBv.out.below hb2 HBv.out.lt).row 22 rfl)
    | (go_at_call 58; refine (HNm.out _).mono ?_; rintro en w3 ⟨rfl, hb3⟩; have hb13 := hb2.trans (hb3.mono hb2.size))
    | (go_at_call 138; refine (HS2.out _ (HK1.out.below hb13)).mono ?_; rintro en w4 h4; obtain ⟨A4, c4, rfl, hown4, hk4, hg4⟩ := HPo.out _ _ _ h4; clear h4))
  have hgr := (below_grown (row := some m) hbw).trans ((below_grown hb13).trans hg4)
  have x4 : rowAt w4 q 0 22 = some v.cells := ((HBv.out.below hb13 HBv.out.lt).kept hg4 (by simpa using hqm)).row 22 rfl
  have HR4 := Lib.hid ((HBr.out.below hb13 HBr.out.lt).kept hg4 (by simpa using hrm))
  have hb3s : base ≤ w3.heap.size := Nat.le_trans hbase (Nat.le_trans hbw.size hb13.size)
  have HO4 := Lib.hid (own_base hown4 hb3s)
  clear hown4 hk4 hg4 hx2 hb2 hb3 hb13 hx HBv HBr HK1 HV HNm HS2 HPo hb3s
  try go_frame
  go_wp2_with (first
    | (refine Great.wpList_readTo rfl (some 27) rfl (Sg.mk v sg A4 c4).val (run_sgB v sg A4 c4 (.tmp 25) (.tmp 26) rfl rfl (by rw [HSg.out]; rfl) _) ?_)
    | (refine wpList_store_blk rfl 34 (.tmp 6) (.tmp 27) rfl r (Sg.mk v sg A4 c4).cells rfl rfl 34 zeroSc HR4.out (by rw [Sg.size_cells]; rfl) (by rw [Sg.size_cells]; exact size_sg) (fun u hu => one_sg _ hu) ?_; intro w5 hR5 hg5 hsz5))
  refine bodyPost_ret (results_row_tmp (g := r) (cs := (Sg.mk v sg A4 c4).cells) rfl _ _ _ _ _ rfl hR5 Tryz.underlying34 rfl (by rw [Sg.size_cells]; exact size_sg)) rfl ⟨_, rfl, ⟨A4, c4, rfl, ?_⟩, grown_new hgr hg5 HW.out⟩
  rw [HSg.out]
  exact HO4.out.kept hg5 (.inr fun e => own_ne HO4.out HR4.out (by decide) e.symm)

set_option maxRecDepth 100000 in
set_option maxHeartbeats 2000000 in
/-- A vote that is not valid is refused, whatever the key. -/
theorem signWith_bad (p : Option Addr) (leaf : Int) (v : Vt) (w : World) (hv : v.ok) (hy : ¬ ValidP v) : Calls Tryz.prog 102 #[.pointer p, .int .i64 leaf, v.val] w (SgNo w) := by
  obtain ⟨w1, hw1⟩ : ∃ w1, w1 = (w.alloc (.cells v.cells 31)).alloc (.cells zeroSc 34) := ⟨_, rfl⟩
  have hbw : Below w.heap.size w w1 := by rw [hw1]; exact ((Below.refl _ _).alloc (Nat.le_refl _) _).alloc (by simp) _
  have hBv : Blk w1 w.heap.size 31 v.cells := by rw [hw1]; exact (Blk.new w _ _).alloc _
  have HBr : Hid (Blk w1 (w.heap.size + 1) 34 zeroSc) := by
    unfold Hid; rw [hw1]
    have := Blk.new (w.alloc (.cells v.cells 31)) 34 zeroSc
    simpa using this
  have HV : Hid (∀ W, Calls Tryz.prog 56 #[v.val] W fun e w' => e = .returned (.bool false) ∧ Below W.heap.size W w') := fun W => valid_no v W hv hy
  have hx : rowAt w1 w.heap.size 0 22 = some v.cells := hBv.row 22 rfl
  clear hy hv hBv
  go_enter Tryz.func102, Tryz.ntmps102
  go_upto_region 1 with fail
  rw [← hw1]
  clear hw1
  go_wp2_with (first
    | (go_at_call 56; refine (HV.out _).mono ?_; rintro en w2 ⟨rfl, hb2⟩; have HBr4 := Lib.hid (HBr.out.below hb2 HBr.out.lt))
    | (refine wpList_store_blk rfl 34 (.tmp 6) (.tmp 13) rfl (w.heap.size + 1) zeroSc rfl rfl 34 zeroSc HBr4.out rfl size_sg (fun u hu => one_zs hu) ?_; intro w5 hR5 hg5 hsz5))
  have hbw4 := hbw.trans (hb2.mono hbw.size)
  exact bodyPost_ret (results_row_tmp (g := w.heap.size + 1) (cs := zeroSc) rfl _ _ _ _ _ rfl hR5 Tryz.underlying34 rfl size_sg) rfl ⟨rfl, hbw4.grown hg5 hbw4.size (by rintro j ⟨⟩; omega)⟩

set_option maxRecDepth 100000 in
set_option maxHeartbeats 1000000 in
theorem ready_nil (w : World) : Calls Tryz.prog 168 #[.pointer none] w fun e w' => e = .returned (.bool false) ∧ w' = w := by
  have hne : ∀ W, (binOp .neq 134 (.pointer none) (.pointer none)).run Tryz.prog W = .ok (.bool false) W := fun W => by first | rfl | kernel_rfl
  go_enter Tryz.func168, Tryz.ntmps168
  go_wp2
  go_ret
  exact ⟨rfl, rfl⟩
set_option maxRecDepth 100000 in
set_option maxHeartbeats 1000000 in
theorem ksign_nil (nm : Nm) (leaf : Int) (w : World) : Calls Tryz.prog 138 #[.pointer none, .int .i64 leaf, nm.val] w (RowFalse w) := by
  have HR := Lib.hid (fun W => ready_nil W)
  go_enter Tryz.func138, Tryz.ntmps138
  go_wp2_with (go_at_call 168; refine (HR.out _).mono ?_; rintro en w2 ⟨rfl, rfl⟩)
  go_ret2
  exact ⟨rfl, (Below.refl _ _).alloc (Nat.le_refl _) _⟩
set_option maxRecDepth 100000 in
set_option maxHeartbeats 2000000 in
/-- A nil key is refused. -/
theorem signWith_nil (leaf : Int) (v : Vt) (w : World) (hv : v.ok) (hy : ValidP v) : Calls Tryz.prog 102 #[.pointer none, .int .i64 leaf, v.val] w (SgNo w) := by
  obtain ⟨w1, hw1⟩ : ∃ w1, w1 = (w.alloc (.cells v.cells 31)).alloc (.cells zeroSc 34) := ⟨_, rfl⟩
  have hbw : Below w.heap.size w w1 := by rw [hw1]; exact ((Below.refl _ _).alloc (Nat.le_refl _) _).alloc (by simp) _
  have HBv : Hid (Blk w1 w.heap.size 31 v.cells) := by unfold Hid; rw [hw1]; exact (Blk.new w _ _).alloc _
  have HBr : Hid (Blk w1 (w.heap.size + 1) 34 zeroSc) := by
    unfold Hid; rw [hw1]
    have := Blk.new (w.alloc (.cells v.cells 31)) 34 zeroSc
    simpa using this
  have HV : Hid (∀ W, Calls Tryz.prog 56 #[v.val] W fun e w' => e = .returned (.bool true) ∧ Below W.heap.size W w') := fun W => valid_yes v W hv hy
  have HNm := Lib.hid (fun W => vname_yes v W hv hy)
  have HS := Lib.hid (fun (nm : Nm) (W : World) => ksign_nil nm leaf W)
  have hx : rowAt w1 w.heap.size 0 22 = some v.cells := HBv.out.row 22 rfl
  clear hy hv
  go_enter Tryz.func102, Tryz.ntmps102
  go_upto_region 1 with fail
  rw [← hw1]
  clear hw1
  go_wp2_with ((first
    | (go_at_call 56; refine (HV.out _).mono ?_; rintro en w2 ⟨rfl, hb2⟩; have hx2 : rowAt w2 w.heap.size 0 22 = some v.cells := (HBv.out.below hb2 HBv.out.lt).row 22 rfl)
    | (go_at_call 58; refine (HNm.out _).mono ?_; rintro en w3 ⟨rfl, hb3⟩)
    | (go_at_call 138; refine (HS.out _ _).mono ?_; rintro en w4 ⟨rfl, hb4⟩; have hb24 := hb2.trans ((hb3.trans (hb4.mono hb3.size)).mono hb2.size); have HBr4 := Lib.hid (HBr.out.below hb24 HBr.out.lt))
    | (refine wpList_store_blk rfl 34 (.tmp 6) (.tmp 24) rfl (w.heap.size + 1) zeroSc rfl rfl 34 zeroSc HBr4.out rfl size_sg (fun u hu => one_zs hu) ?_; intro w5 hR5 hg5 hsz5)))
  have hbw4 := hbw.trans (hb24.mono hbw.size)
  exact bodyPost_ret (results_row_tmp (g := w.heap.size + 1) (cs := zeroSc) rfl _ _ _ _ _ rfl hR5 Tryz.underlying34 rfl size_sg) rfl ⟨rfl, hbw4.grown hg5 hbw4.size (by rintro j ⟨⟩; omega)⟩

/-- What Sign returns: what SignWith returns with a new key. -/
def SgnG (G : Array Value → World → Prop) (ok : Bool) (w : World) (e : Ending) (w' : World) : Prop := ∃ cs, e = .returned (.tuple #[.agg cs, .bool ok]) ∧ G cs w' ∧ Below w.heap.size w w'
set_option maxRecDepth 100000 in
set_option maxHeartbeats 4000000 in
theorem sign_core (G : Array Value → World → Prop) (ok : Bool) (s : Nm) (leaf : Int) (v : Vt) (w : World) (hG : ∀ cs V V' r x, G cs V → Blk V r 34 x → V.grownBy V' (some r) → G cs V') (hG2 : ∀ cs V, G cs V → cs.size = 23 ∧ ∀ u ∈ cs.toList, u.oneCell' = true)
    (hsw : ∀ h m W, w.heap.size ≤ m → w.heap.size ≤ W.heap.size → KeyAt s h m W → Calls Tryz.prog 102 #[.pointer (some ⟨h, 0, none⟩), .int .i64 leaf, v.val] W (SWPost G ok m W)) :
    Calls Tryz.prog 60 #[s.val, .int .i64 leaf, v.val] w (SgnG G ok w) := by
  obtain ⟨w1, hw1⟩ : ∃ w1, w1 = ((w.alloc (.cells s.cells 29)).alloc (.cells v.cells 31)).alloc (.cells zeroSc 34) := ⟨_, rfl⟩
  have hbw : Below w.heap.size w w1 := by rw [hw1]; exact (((Below.refl _ _).alloc (Nat.le_refl _) _).alloc (by simp) _).alloc (by simp; omega) _
  have HBs : Hid (Blk w1 w.heap.size 29 s.cells) := by unfold Hid; rw [hw1]; exact ((Blk.new w _ _).alloc _).alloc _
  have HBv : Hid (Blk w1 (w.heap.size + 1) 31 v.cells) := by
    unfold Hid; rw [hw1]
    have := (Blk.new (w.alloc (.cells s.cells 29)) 31 v.cells).alloc (.cells zeroSc 34)
    simpa using this
  have HBr : Hid (Blk w1 (w.heap.size + 2) 34 zeroSc) := by
    unfold Hid; rw [hw1]
    have := Blk.new ((w.alloc (.cells s.cells 29)).alloc (.cells v.cells 31)) 34 zeroSc
    simpa using this
  obtain ⟨r, hr⟩ : ∃ r, r = w.heap.size + 2 := ⟨_, rfl⟩
  obtain ⟨q, hq⟩ : ∃ q, q = w.heap.size + 1 := ⟨_, rfl⟩
  obtain ⟨p, hp⟩ : ∃ p, p = w.heap.size := ⟨_, rfl⟩
  rw [← hr] at HBr
  rw [← hq] at HBv
  rw [← hp] at HBs
  have hrw : w.heap.size ≤ r := by omega
  have hpr : p ≠ r := by omega
  have hqr : q ≠ r := by omega
  have HRows : Hid (∀ V, Below w1.heap.size w1 V → rowAt V p 0 8 = some s.cells ∧ rowAt V q 0 22 = some v.cells) := fun V hV => ⟨(HBs.out.below hV HBs.out.lt).row 8 rfl, (HBv.out.below hV HBv.out.lt).row 22 rfl⟩
  have HNK := Lib.hid (fun W => newKey_any s W)
  have HSW := Lib.hid hsw
  have HG := Lib.hid hG
  have HG2 := Lib.hid hG2
  clear hsw hG hG2
  have hbx : Below w1.heap.size w1 w1 := Below.refl _ _
  go_enter Tryz.func60, Tryz.ntmps60
  go_upto_region 1 with fail
  rw [← hw1, ← hr, ← hq, ← hp]
  clear hw1 hr hq hp
  refine wp_region_noPanic ?_
  refine wp_region_held_drew (S := fun w' => rowAt w' p 0 8 = some s.cells ∧ rowAt w' q 0 22 = some v.cells) (by kernel_rfl) (HRows.out _ hbx.drew) (fun hHeld => ?_)
  refine wpAnyH_takeD (some 8) (i := 0) (v := ?vh1_0) rfl rfl (by kernel_rfl) (by kernel_rfl) (by kernel_rfl) (fun _ _ _ h => h) (by rfl) ?hh1_0 (by assumption) ?_
  case hh1_0 => (intro wq hSw; (try dsimp only at hSw); go_simp; (try (with_reducible rfl)))
  go_frame
  refine wpAnyH_takeD (some 10) (i := 2) (v := ?vh1_2) rfl rfl (by kernel_rfl) (by kernel_rfl) (by kernel_rfl) (fun _ _ _ h => h) (by rfl) ?hh1_2 (by assumption) ?_
  case hh1_2 => (intro wq hSw; (try dsimp only at hSw); go_simp; (try (with_reducible rfl)))
  go_frame
  refine wpAnyH_takeD (some 11) (i := 3) (v := ?vh1_3) rfl rfl (by kernel_rfl) (by kernel_rfl) (by kernel_rfl) (fun _ _ _ h => h) (by rfl) ?hh1_3 (by assumption) ?_
  case hh1_3 => (intro wq hSw; (try dsimp only at hSw); go_simp; (try (with_reducible rfl)))
  go_frame
  refine wpAnyH_ready (rs := [1]) (by kernel_rfl) (by simp) ?_
  refine AllReadyH.cons rfl (fun K hK => ?_) AllReadyH.nil
  go_simp
  refine (HNK.out _).mono ?_; rintro en w2 h2; obtain ⟨h, m, rfl, hm, hk2, hb2⟩ := h2.at; clear h2; have hbx2 := hbx.drew.trans (hb2.mono (Nat.le_refl _)); have hm1 : w1.heap.size ≤ m := hm; have hkk := Lib.hid hk2; clear hm hk2
  go_wp2_with fail
  refine hK.out _ _ (HRows.out _ hbx2) (fun hHeld => ?_)
  clear hK K
  try go_frame
  refine wpAnyH_ready (rs := [4]) (by kernel_rfl) (by simp) ?_
  refine AllReadyH.cons rfl (fun K hK => ?_) AllReadyH.nil
  go_simp
  refine (HSW.out _ _ _ (Nat.le_trans hbw.size hm1) (Nat.le_trans hbw.size hbx2.size) hkk.out).mono ?_; rintro en w3 ⟨cs, rfl, hG3, hg3⟩; have hbx3 := hbx2.grown hg3 hbx2.size (fun j hj => by injection hj with hj; subst hj; exact hm1); have HG3 := Lib.hid hG3; have HBr3 := Lib.hid (HBr.out.below hbx3 HBr.out.lt); clear hG3 hg3
  go_wp2_with fail
  refine hK.out _ _ (HRows.out _ hbx3) (fun hHeld => ?_)
  clear hK K
  try go_frame
  refine wpAnyH_takeD (some 13) (i := 5) (v := ?vh1_5) rfl rfl (by kernel_rfl) (by kernel_rfl) (by kernel_rfl) (fun _ _ _ h => h) (by rfl) ?hh1_5 (by assumption) ?_
  case hh1_5 => (intro wq hSw; (try dsimp only at hSw); go_simp; (try (with_reducible rfl)))
  go_frame
  refine wpAnyH_takeD (some 14) (i := 6) (v := ?vh1_6) rfl rfl (by kernel_rfl) (by kernel_rfl) (by kernel_rfl) (fun _ _ _ h => h) (by rfl) ?hh1_6 (by assumption) ?_
  case hh1_6 => (intro wq hSw; (try dsimp only at hSw); go_simp; (try (with_reducible rfl)))
  go_frame
  refine wpAnyH_ready (rs := [7]) (by kernel_rfl) (by simp) ?_
  refine AllReadyH.cons rfl (fun K hK => ?_) AllReadyH.nil
  rw [if_pos (by rfl)]
  refine wp_store_blk 34 (.tmp 6) (.tmp 13) (by rfl) r cs (by rfl) (by rfl) 34 zeroSc HBr3.out (by rw [(HG2.out _ _ HG3.out).1]; rfl) (by rw [(HG2.out _ _ HG3.out).1]; exact size_sg) (HG2.out _ _ HG3.out).2 (by rfl) ?_; intro w4 hR4 hg4 hsz4; have HRows4 : Hid (rowAt w4 p 0 8 = some s.cells ∧ rowAt w4 q 0 22 = some v.cells) := ⟨((HBs.out.below hbx3 HBs.out.lt).kept hg4 (by simpa using hpr)).row 8 rfl, ((HBv.out.below hbx3 HBv.out.lt).kept hg4 (by simpa using hqr)).row 22 rfl⟩
  refine hK.out _ _ (HRows4.out) (fun hHeld => ?_)
  clear hK K
  try go_frame
  refine wpAnyH_takeD (some 7) (i := 8) (v := ?vh1_8) rfl rfl (by kernel_rfl) (by kernel_rfl) (by kernel_rfl) (fun _ _ _ h => h) (by rfl) ?hh1_8 (by assumption) ?_
  case hh1_8 => (intro wq hSw; (try dsimp only at hSw); go_simp; (try (with_reducible rfl)))
  go_frame
  refine wpAnyH_done (by kernel_rfl) ?_ _
  refine NoPanic.normal ?_
  have hbw3 := hbw.trans (hbx3.mono hbw.size)
  go_wp2_with fail
  exact bodyPost_ret (results_row_tmp (g := r) (cs := cs) rfl _ _ _ _ _ rfl hR4 Tryz.underlying34 rfl (by rw [(HG2.out _ _ HG3.out).1]; exact size_sg)) rfl ⟨cs, rfl, HG.out _ _ _ _ _ HG3.out HBr3.out hg4, hbw3.grown hg4 hbw3.size (by rintro j ⟨⟩; omega)⟩

theorem SgG.kept {base : Nat} {v : Vt} {sig : List UInt8} {cs : Array Value} {V V' : World} {r t : Nat} {x : Array Value} (h : SgG base v sig cs V) (hB : Blk V r t x) (ht : 5 ≠ t) (hg : V.grownBy V' (some r)) : SgG base v sig cs V' := by
  obtain ⟨A, c, rfl, ho⟩ := h
  exact ⟨A, c, rfl, ho.kept hg (.inr fun e => own_ne ho hB ht e.symm)⟩
theorem SgG.one {base : Nat} {v : Vt} {sig : List UInt8} {cs : Array Value} {V : World} (h : SgG base v sig cs V) : cs.size = 23 ∧ ∀ u ∈ cs.toList, u.oneCell' = true := by
  obtain ⟨A, c, rfl, _⟩ := h
  exact ⟨Sg.size_cells _, fun u hu => one_sg _ hu⟩
/-- Sign of a valid vote with a leaf of the key. -/
theorem sign_yes (s : Nm) (leaf : Nat) (v : Vt) (w : World) (hv : v.ok) (hl : leaf < 1024) (hy : ValidP v) : Calls Tryz.prog 60 #[s.val, .int .i64 (leaf : Int), v.val] w (SgnG (SgG w.heap.size v (sigF s leaf (nameF v))) true w) :=
  sign_core _ true s leaf v w (fun _ _ _ _ _ h hB hg => h.kept hB (by decide) hg) (fun _ _ h => h.one) (fun h m W _ hs hk => signWith_yes s h m leaf w.heap.size v W hv hk hl hy hs)
/-- Sign of a vote that is not valid, or with a leaf beyond the capacity. -/
theorem sign_not (s : Nm) (leaf : Int) (v : Vt) (w : World) (hv : v.ok) (hn : ¬ ValidP v ∨ leaf < 0 ∨ 1024 ≤ leaf) : Calls Tryz.prog 60 #[s.val, .int .i64 leaf, v.val] w (SgNo w) := by
  have h : Calls Tryz.prog 60 #[s.val, .int .i64 leaf, v.val] w (SgnG (fun cs _ => cs = zeroSc) false w) := sign_core _ false s leaf v w (fun _ _ _ _ _ h _ _ => h) (fun cs _ h => by subst h; exact ⟨rfl, fun u hu => one_zs hu⟩) (fun h m W _ _ hk => by
    have h1 : Calls Tryz.prog 102 #[.pointer (some ⟨h, 0, none⟩), .int .i64 leaf, v.val] W (SgNo W) := by
      by_cases hy : ValidP v
      · exact signWith_no s h m leaf v W hv hk.1 (hn.resolve_left (fun h => h hy)) hy
      · exact signWith_bad _ leaf v W hv hy
    refine h1.mono ?_
    rintro e w' ⟨rfl, hb⟩
    exact ⟨zeroSc, rfl, rfl, below_grown hb⟩)
  refine h.mono ?_
  rintro e w' ⟨cs, rfl, rfl, hb⟩
  exact ⟨rfl, hb⟩
end Go.Proofs.YthmecidpjlaonaaGreat
