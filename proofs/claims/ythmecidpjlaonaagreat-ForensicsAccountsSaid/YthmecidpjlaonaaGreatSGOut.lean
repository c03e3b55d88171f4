/-
  The comparison by which accept.Outcomes sorts tells the order of two outcomes of its list as it stands; sort.Slice of outcomes permutes. No condition.
  Parts of accept.Outcomes: what its map of signers holds (MaskOK), the runs of its operations on that map, its sort. No condition.
  accept.Outcomes returns outcomes of the slot, each with a quorum of accepted Precommits (OutS). Conditions: valid votes in memory below the call; the slot is a member's.
-/
import Derived.Test.YthmecidpjlaonaaGreatSGPd6
import Derived.Test.YthmecidpjlaonaaGreatSGMapR
import Derived.Test.YthmecidpjlaonaaGreatSGAsc
import Derived.Test.YthmecidpjlaonaaGreatSGDefs
import Derived.Test.YthmecidpjlaonaaGreatSGAcP
import Derived.Deep.DeepCutAuto
namespace Go.Proofs.YthmecidpjlaonaaGreat
open Go.RowKit
attribute [local go_sem ↓] Go.wp_at_zero Go.wp_at_succ loadNm loadVt loadSg loadEv loadOc
attribute [local go_sem] runNm runVt runSg runEv runOc pickRow_some rowAt_drew rowAt_drewN
theorem RowE.oc {T : List Value} {w0 W : World} {g i : Nat} {l : List Oc} {x : Oc} (h : RowE ⟨occ, T⟩ 101 w0 g l W) (hx : l[i]? = some x) : rowAt W g (i * 11) 11 = some x.cells := by
  refine rowAt_of (fun j u hu => ?_) rfl
  have := row_cell (c := ⟨occ, T⟩) (m := 11) (fun _ => rfl) h.blk i j x u hx (by simpa using hu)
  rwa [Nat.zero_add] at this

set_option maxRecDepth 100000 in
set_option maxHeartbeats 2000000 in
theorem outLess_on (T : List Value) (B g n c : Nat) (l0 : List Oc) (w0 : World) (hB : Blk w0 B 62 #[.slice (some ⟨g, 0, none⟩) n c]) (hne : B ≠ g) (hn : l0.length = n) :
    LessE ⟨occ, T⟩ 101 w0 g l0 befO 112 #[.pointer (some ⟨B, 0, none⟩)] := by
  intro W l i j x y hr hp hx hy
  have hi : i < n := by rw [← hn, ← hp.length_eq]; exact (List.getElem?_eq_some_iff.1 hx).1
  have hj : j < n := by rw [← hn, ← hp.length_eq]; exact (List.getElem?_eq_some_iff.1 hy).1
  have hc0 : W.cell? ⟨B, 0, none⟩ = some (.slice (some ⟨g, 0, none⟩) n c) := (hr.box hB hne).cell 0
  have HRows : Hid (∀ V, Below W.heap.size W V → V.cell? ⟨B, 0, none⟩ = some (.slice (some ⟨g, 0, none⟩) n c) ∧ rowAt V g (i * 11) 11 = some x.cells ∧ rowAt V g (j * 11) 11 = some y.cells) :=
    fun V hV => ⟨(hV.cell (p := ⟨B, 0, none⟩) (hr.box hB hne).lt).trans hc0, rowAt_below (hr.oc hx) hV hr.blk.lt, rowAt_below (hr.oc hy) hV hr.blk.lt⟩
  have HL : Hid (∀ V, Below W.heap.size W V → Calls Tryz.prog 113 #[x.val, y.val] V (BoolPost V (befO x y))) :=
    fun V hV => before_any x y V
  obtain ⟨r, hrr⟩ : ∃ r, r = befO x y := ⟨_, rfl⟩
  rw [← hrr] at HL ⊢
  clear hrr hc0 hr hp hx hy hB hn
  have hbw : Below W.heap.size W W := Below.refl _ _
  show Calls Tryz.prog 112 #[.int .i64 (i : Int), .int .i64 (j : Int), .pointer (some ⟨B, 0, none⟩)] W _
  go_enter Tryz.func112, Tryz.ntmps112
  go_upto_region 1 with fail
  refine wp_region_noPanic ?_
  refine wp_region_held_drew (S := fun w' => w'.cell? ⟨B, 0, none⟩ = some (.slice (some ⟨g, 0, none⟩) n c) ∧ rowAt w' g (i * 11) 11 = some x.cells ∧ rowAt w' g (j * 11) 11 = some y.cells) (by kernel_rfl) (HRows.out _ hbw.drew) (fun hHeld => ?_)
  refine wpAnyH_takeD (some 6) (i := 0) (v := ?vh1_0) rfl rfl (by kernel_rfl) (by kernel_rfl) (by kernel_rfl) (fun _ _ _ h => h) (by rfl) ?hh1_0 (by assumption) ?_
  case hh1_0 => (intro wq hSw; (try dsimp only at hSw); go_simp; (try (with_reducible rfl)))
  go_frame
  refine wpAnyH_takeD (some 7) (i := 1) (v := ?vh1_1) rfl rfl (by kernel_rfl) (by kernel_rfl) (by kernel_rfl) (fun _ _ _ h => h) (by rfl) ?hh1_1 (by assumption) ?_
  case hh1_1 => (intro wq hSw; (try dsimp only at hSw); go_simp; (try (with_reducible rfl)))
  go_frame
  refine wpAnyH_takeD (some 8) (i := 2) (v := ?vh1_2) rfl rfl (by kernel_rfl) (by kernel_rfl) (by kernel_rfl) (fun _ _ _ h => h) (by rfl) ?hh1_2 (by assumption) ?_
  case hh1_2 => (intro wq hSw; (try dsimp only at hSw); go_simp; (try (with_reducible rfl)))
  go_frame
  refine wpAnyH_takeD (some 9) (i := 3) (v := ?vh1_3) rfl rfl (by kernel_rfl) (by kernel_rfl) (by kernel_rfl) (fun _ _ _ h => h) (by rfl) ?hh1_3 (by assumption) ?_
  case hh1_3 => (intro wq hSw; (try dsimp only at hSw); go_simp; (try (with_reducible rfl)))
  go_frame
  refine wpAnyH_takeD (some 10) (i := 4) (v := ?vh1_4) rfl rfl (by kernel_rfl) (by kernel_rfl) (by kernel_rfl) (fun _ _ _ h => h) (by rfl) ?hh1_4 (by assumption) ?_
  case hh1_4 => (intro wq hSw; (try dsimp only at hSw); go_simp; (try (with_reducible rfl)))
  go_frame
  refine wpAnyH_takeD (some 11) (i := 5) (v := ?vh1_5) rfl rfl (by kernel_rfl) (by kernel_rfl) (by kernel_rfl) (fun _ _ _ h => h) (by rfl) ?hh1_5 (by assumption) ?_
  case hh1_5 => (intro wq hSw; (try dsimp only at hSw); go_simp; (try (with_reducible rfl)))
  go_frame
  refine wpAnyH_takeD (some 12) (i := 6) (v := ?vh1_6) rfl rfl (by kernel_rfl) (by kernel_rfl) (by kernel_rfl) (fun _ _ _ h => h) (by rfl) ?hh1_6 (by assumption) ?_
  case hh1_6 => (intro wq hSw; (try dsimp only at hSw); go_simp; (try (with_reducible rfl)))
  go_frame
  refine wpAnyH_takeD (some 13) (i := 7) (v := ?vh1_7) rfl rfl (by kernel_rfl) (by kernel_rfl) (by kernel_rfl) (fun _ _ _ h => h) (by rfl) ?hh1_7 (by assumption) ?_
  case hh1_7 => (intro wq hSw; (try dsimp only at hSw); go_simp; (try (with_reducible rfl)))
  go_frame
  refine wpAnyH_ready (rs := [8]) (by kernel_rfl) (by simp) ?_
  refine AllReadyH.cons rfl (fun K hK => ?_) AllReadyH.nil
  go_simp
  refine (HL.out _ hbw.drew).mono ?_; rintro en w2 ⟨rfl, hb2⟩; have hbw2 := hbw.drew.trans (hb2.mono hbw.size)
  go_wp2_with fail
  refine hK.out _ _ (HRows.out _ hbw2) (fun hHeld => ?_)
  clear hK K
  try go_frame
  refine wpAnyH_takeD (some 5) (i := 9) (v := ?vh1_9) rfl rfl (by kernel_rfl) (by kernel_rfl) (by kernel_rfl) (fun _ _ _ h => h) (by rfl) ?hh1_9 (by assumption) ?_
  case hh1_9 => (intro wq hSw; (try dsimp only at hSw); go_simp; (try (with_reducible rfl)))
  go_frame
  refine wpAnyH_done (by kernel_rfl) ?_ _
  refine NoPanic.normal ?_
  go_wp2
  go_ret
  exact ⟨rfl, hbw2⟩

noncomputable def ocT : TypeInfo := (Tryz.prog.info? 62).get (by kernel_rfl)
noncomputable def ocE : TypeInfo := (Tryz.prog.info? 101).get (by kernel_rfl)
theorem ocE_k (n : Nat) (h : 2 ≤ n) : Lib.swapperK n ocE 25 = 9 := by
  have a : ocE.hasPointers = false := by kernel_rfl
  have b : ocE.bytes = 32 := by kernel_rfl
  have c0 : (n == 0) = false := by simp; omega
  have c1 : (n == 1) = false := by simp; omega
  unfold Lib.swapperK
  rw [a, b, c0, c1]; rfl
theorem ocT_is : Tryz.prog.info? 62 = some ocT := by kernel_rfl
theorem ocE_is : Tryz.prog.info? 101 = some ocE := by kernel_rfl
theorem ocT_desc : ocT.desc = .slice 101 := by kernel_rfl
theorem ocE_size : ocE.size = 11 := by kernel_rfl
theorem slT_oc : SlT 62 101 11 :=
  ⟨⟨ocT, ocT_is, ocT_desc⟩, by kernel_rfl, ⟨ocE, ocE_is, ocE_size, ocE_k⟩, fun _ => by kernel_rfl, fun _ => by kernel_rfl⟩
theorem enters_out (args : Array Value) (W : World) : (callFunc 112 args).run Tryz.prog W = .ok (.enter 112 args) W := enters_of Tryz.func112 (by kernel_rfl) rfl args W
end Go.Proofs.YthmecidpjlaonaaGreat
namespace Go.Proofs.YthmecidpjlaonaaGreat
open Go.RowKit Go.Shelf

/-- Set S holds members alone, each a signer of a Precommit in O for k. -/
def MaskFor (M : Int) (O : List Vt) (k : Oc) (S : Nat) : Prop :=
  S < 1024 ∧ ∀ i, i < 10 → S.testBit i = true → (xOf M).testBit i = true ∧ ∃ w ∈ O, w.signer = (i : Int) ∧ w.kind = 4 ∧ w.round = k.round ∧ w.choice = k.choice ∧ w.value = k.value
theorem MaskFor.zero (M : Int) (O : List Vt) (k : Oc) : MaskFor M O k 0 := ⟨by decide, fun i _ h => by simp at h⟩
theorem MaskFor.or {M : Int} {O : List Vt} {k : Oc} {S s : Nat} (h : MaskFor M O k S) (hs : s ≤ 9) (hm : (xOf M).testBit s = true) (hw : ∃ w ∈ O, w.signer = (s : Int) ∧ w.kind = 4 ∧ w.round = k.round ∧ w.choice = k.choice ∧ w.value = k.value) : MaskFor M O k (S ||| 2 ^ s) := by
  refine ⟨or_lt10 S s h.1 hs, fun i hi hb => ?_⟩
  rw [Nat.testBit_or, Bool.or_eq_true, Nat.testBit_two_pow] at hb
  rcases hb with hb | hb
  · exact h.2 i hi hb
  · have : s = i := by simpa using hb
    subst this
    exact ⟨hm, hw⟩
/-- What the map holds. -/
def MaskOK (M : Int) (s : Int) (O : List Vt) (kl : List (Oc × Value)) : Prop :=
  ∀ p ∈ kl, p.1.slot = s ∧ p.1.choice ≠ 2 ∧ ∃ S : Nat, p.2 = .int .i64 (S : Int) ∧ MaskFor M O p.1 S
theorem MaskOK.nil (M s : Int) (O : List Vt) : MaskOK M s O [] := fun p h => by cases h
theorem MaskOK.upd {M s : Int} {O : List Vt} {kl kl' : List (Oc × Value)} {k : Oc} {S : Nat} (h : MaskOK M s O kl) (hu : Upd k (.int .i64 (S : Int)) kl kl') (hk : k.slot = s) (hc : k.choice ≠ 2) (hS : MaskFor M O k S) : MaskOK M s O kl' := by
  intro p hp
  rcases hu p hp with h1 | rfl
  · exact h p h1
  · exact ⟨hk, hc, S, rfl, hS⟩
theorem alook_mem {κ : Type} [DecidableEq κ] (k : κ) (v : Value) : ∀ l : List (κ × Value), alook k l = some v → (k, v) ∈ l
  | [], h => by simp [alook] at h
  | p :: r, h => by
    rw [alook] at h
    split at h
    · rename_i hk
      injection h with h
      rw [hk, ← h]
      exact List.mem_cons_self
    · exact List.mem_cons_of_mem _ (alook_mem k v r h)
theorem MaskOK.look {M s : Int} {O : List Vt} {kl : List (Oc × Value)} (h : MaskOK M s O kl) (k : Oc) : ∃ S : Nat, (alook k kl).getD (.int .i64 0) = .int .i64 (S : Int) ∧ MaskFor M O k S := by
  rcases ha : alook k kl with _ | v
  · exact ⟨0, rfl, MaskFor.zero M O k⟩
  · obtain ⟨_, _, S, hS, hm⟩ := h (k, v) (alook_mem k v kl ha)
    exact ⟨S, by rw [Option.getD_some]; exact hS, hm⟩
theorem MaskOK.out {M s : Int} {O : List Vt} {kl : List (Oc × Value)} (h : MaskOK M s O kl) {k : Oc} {S : Nat} (hk : (k, Value.int .i64 (S : Int)) ∈ kl) (hq : quoF (popF (xOf M) 10) ≤ popF (xOf (S : Int)) 10) : k.slot = s ∧ OutS (xOf M) O k.round k.choice k.value := by
  obtain ⟨h1, h2, S', hS', hm⟩ := h _ hk
  have e : S = S' := by
    simp only [Value.int.injEq, true_and] at hS'
    omega
  subst e
  rw [xOf_nat S hm.1] at hq
  exact ⟨h1, h2, S, fun i hi hb => (hm.2 i hi hb).1, hq, fun i hi hb => (hm.2 i hi hb).2⟩
theorem zero_mask (w : World) : (zeroValue 27).run Tryz.prog w = .ok (.int .i64 0) w := by kernel_rfl
set_option maxRecDepth 100000 in
theorem run_buildOc {o : Oper} {a : Act} (s r c : Int) (v : Nm) (x0 x1 x2 x3 : Operand) (ho : o.op = .build 101 #[(0, x0), (1, x1), (2, x2), (3, x3)]) (h0 : a.eval x0 = I s) (h1 : a.eval x1 = I r) (h2 : a.eval x2 = I c) (h3 : a.eval x3 = .agg v.cells) (w : World) :
    (execOp a.eval o).run Tryz.prog w = .ok (.value (Oc.mk s r c v).val) w := by
  unfold execOp
  rw [ho]
  simp only [List.map_toArray, List.map_cons, List.map_nil, h0, h1, h2, h3]
  go_simp
theorem run_shl1 {o : Oper} {a : Act} (x : Operand) (s : Nat) (ho : o.op = .binOp .shl 27 (.const (.int .i64 1)) x 3) (hx : a.eval x = .int .i64 (s : Int)) (hs : s ≤ 9) (w : World) :
    (execOp a.eval o).run Tryz.prog w = .ok (.value (.int .i64 ((2 ^ s : Nat) : Int))) w := by
  have he : a.eval (.const (.int .i64 1)) = .int .i64 1 := rfl
  unfold execOp
  rw [ho]
  simp only [hx, he]
  go_simp
  clear ho hx he
  rcases (by omega : s = 0 ∨ s = 1 ∨ s = 2 ∨ s = 3 ∨ s = 4 ∨ s = 5 ∨ s = 6 ∨ s = 7 ∨ s = 8 ∨ s = 9) with rfl | rfl | rfl | rfl | rfl | rfl | rfl | rfl | rfl | rfl <;> rfl
theorem run_orm {o : Oper} {a : Act} (x y : Operand) (m s : Nat) (ho : o.op = .binOp .or 27 x y 27) (hx : a.eval x = .int .i64 (m : Int)) (hy : a.eval y = .int .i64 ((2 ^ s : Nat) : Int)) (hm : m < 1024) (hs : s ≤ 9) (w : World) :
    (execOp a.eval o).run Tryz.prog w = .ok (.value (.int .i64 ((m ||| 2 ^ s : Nat) : Int))) w := by
  have h2 : 2 ^ s < 1024 := Nat.pow_lt_pow_right (n := 10) (by omega) (by omega)
  have h := i64_or m (2 ^ s) (by omega) (by omega)
  obtain ⟨z, hz⟩ : ∃ z : Int, z = ((2 ^ s : Nat) : Int) := ⟨_, rfl⟩
  obtain ⟨z2, hz2⟩ : ∃ z : Int, z = ((m ||| 2 ^ s : Nat) : Int) := ⟨_, rfl⟩
  rw [← hz, ← hz2] at h
  rw [← hz] at hy
  rw [← hz2]
  unfold execOp
  rw [ho]
  simp only [hx, hy]
  clear hz hz2
  go_simp
/-- A step whose run is known. -/
theorem wp_ranv {op : Oper} {a : Act} {w w' : World} {K : Act → World → Prop} {Q : Exit → Act → World → Prop} (v : Value) (hr : (execOp a.eval op).run Tryz.prog w = .ok (.value v) w') (hK : K (a.put op.dst v) w') : op.wp Tryz.prog a w K Q := by
  unfold Oper.wp
  rw [hr, Oper.upon_value]
  exact hK
theorem wp_rans {op : Oper} {a : Act} {w w' : World} {K : Act → World → Prop} {Q : Exit → Act → World → Prop} (hr : (execOp a.eval op).run Tryz.prog w = .ok .skip w') (hK : K (a.put op.dst undef) w') : op.wp Tryz.prog a w K Q := by
  unfold Oper.wp
  rw [hr]
  exact hK
theorem run_lookM {o : Oper} {a : Act} (x y : Operand) (ho : o.op = .lookup 138 x y false) (m : Nat) (k : Oc) (hx : a.eval x = .map (some m)) (hy : a.eval y = k.val) {w : World} {kl : List (Oc × Value)} (h : MapB Oc.val w m kl) :
    (execOp a.eval o).run Tryz.prog w = .ok (.value ((alook k kl).getD (.int .i64 0))) w := by
  have hr := h.is.look keyOc Tryz.underlying138 (.int .i64 0) (zero_mask w) k false
  unfold execOp
  rw [ho]
  simp only [hx, hy]
  simp only [Bool.false_eq_true, if_false] at hr
  simp [hr, Result.andThen]
theorem run_entM {o : Oper} {a : Act} (x y : Operand) (ho : o.op = .mapEntry 138 x y) (m : Nat) (k : Oc) (hx : a.eval x = .map (some m)) (hy : a.eval y = k.val) {w : World} {kl : List (Oc × Value)} (h : MapB Oc.val w m kl) :
    ∃ (w' : World) (b : Nat) (v : Value) (kl' : List (Oc × Value)), (execOp a.eval o).run Tryz.prog w = .ok (.value (.tuple #[v, goInt (b : Int)])) w' ∧ MapE Oc.val w' m kl' k b ∧ Upd k (.int .i64 0) kl kl' ∧ kl'.length ≤ kl.length + 1 ∧ w.grownBy w' (some m) ∧ w'.heap.size = w.heap.size := by
  obtain ⟨w', b, v, kl', hr, h1⟩ := h.entry keyOc Tryz.underlying138 (.int .i64 0) zero_mask k
  refine ⟨w', b, v, kl', ?_, h1⟩
  unfold execOp
  rw [ho]
  simp only [hx, hy]
  simp [hr, Result.andThen]
theorem run_estM {o : Oper} {a : Act} (x y z : Operand) (ho : o.op = .entryStore 138 x y z) (m b : Nat) (k : Oc) (v : Value) (hx : a.eval x = .map (some m)) (hy : a.eval y = goInt (b : Int)) (hz : a.eval z = v) {w : World} {kl : List (Oc × Value)} (h : MapE Oc.val w m kl k b) :
    ∃ (w' : World) (kl' : List (Oc × Value)), (execOp a.eval o).run Tryz.prog w = .ok .skip w' ∧ MapB Oc.val w' m kl' ∧ Upd k v kl kl' ∧ kl'.length = kl.length ∧ w.grownBy w' (some m) ∧ w'.heap.size = w.heap.size := by
  obtain ⟨w', kl', hr, h1⟩ := h.store (P := Tryz.prog) 138 v
  refine ⟨w', kl', ?_, h1⟩
  unfold execOp
  rw [ho]
  simp only [hx, hy, hz]
  simp [hr, Result.andThen]
theorem MapE.isB {κ : Type} {enc : κ → Value} {w : World} {m b : Nat} {l : List (κ × Value)} {k : κ} (h : MapE enc w m l k b) : MapB enc w m l := by
  obtain ⟨es, c, i, e, h1, h2, h3, h4, _⟩ := h
  exact ⟨es, c, h1, h2, h3, h4⟩
theorem wp_entM {op : Oper} {a : Act} {K : Act → World → Prop} {Q : Exit → Act → World → Prop} (x y : Operand) (ho : op.op = .mapEntry 138 x y) (m : Nat) (k : Oc) (hx : a.eval x = .map (some m)) (hy : a.eval y = k.val) {w : World} {kl : List (Oc × Value)} (h : MapB Oc.val w m kl)
    (hK : ∀ (w' : World) (b : Nat) (v : Value) (kl' : List (Oc × Value)), MapE Oc.val w' m kl' k b → Upd k (.int .i64 0) kl kl' → kl'.length ≤ kl.length + 1 → w.grownBy w' (some m) → w'.heap.size = w.heap.size → K (a.put op.dst (.tuple #[v, goInt (b : Int)])) w') : op.wp Tryz.prog a w K Q := by
  obtain ⟨w', b, v, kl', hr, h1, h2, h3, h4, h5⟩ := run_entM x y ho m k hx hy h
  exact wp_ranv _ hr (hK w' b v kl' h1 h2 h3 h4 h5)
theorem wp_estM {op : Oper} {a : Act} {K : Act → World → Prop} {Q : Exit → Act → World → Prop} (x y z : Operand) (ho : op.op = .entryStore 138 x y z) (m b : Nat) (k : Oc) (v : Value) (hx : a.eval x = .map (some m)) (hy : a.eval y = goInt (b : Int)) (hz : a.eval z = v) {w : World} {kl : List (Oc × Value)} (h : MapE Oc.val w m kl k b)
    (hK : ∀ (w' : World) (kl' : List (Oc × Value)), MapB Oc.val w' m kl' → Upd k v kl kl' → kl'.length = kl.length → w.grownBy w' (some m) → w'.heap.size = w.heap.size → K (a.put op.dst undef) w') : op.wp Tryz.prog a w K Q := by
  obtain ⟨w', kl', hr, h1, h2, h3, h4, h5⟩ := run_estM x y z ho m b k v hx hy hz h
  exact wp_rans hr (hK w' kl' h1 h2 h3 h4 h5)
theorem Rng.le {enc : Oc → Value} {w : World} {m r cnt : Nat} {l : List (Oc × Value)} (h : Rng enc w m r l cnt) : cnt ≤ l.length := by
  obtain ⟨es, c, s, c0, seen, _, _, h3, _, _, _, _, h8⟩ := h
  rw [h8]
  unfold leftOf
  have h4 := congrArg List.length h3
  simp only [List.length_map, Array.length_toList] at h4
  rw [← h4]
  exact Array.size_filter_le
theorem Rng.ne_row {enc : Oc → Value} {w : World} {m r cnt base n size : Nat} {e : TypeId} {v : Value} {xs : List Value} {l : List (Oc × Value)} (h : Rng enc w m r l cnt) (ho : w.ownsRow base e size v n xs) : some m ≠ v.ownBlock ∧ some r ≠ v.ownBlock := by
  obtain ⟨es, c, s, c0, seen, h1, h2, _⟩ := h
  rcases ho.2 with ⟨rfl, _⟩ | ⟨g, cap, cur, rfl, _, hh, _⟩
  · exact ⟨by simp [Value.ownBlock], by simp [Value.ownBlock]⟩
  · refine ⟨fun he => ?_, fun he => ?_⟩
    · have : m = g := by simpa [Value.ownBlock] using he
      subst this
      rw [h1] at hh
      cases hh
    · have : r = g := by simpa [Value.ownBlock] using he
      subst this
      rw [h2] at hh
      cases hh
/-- What the sort of outcomes leaves. -/
def OutMid (D : List Oc) (w : World) (pb : Nat) (v : Value) (e : Ending) (w3 : World) : Prop :=
  e = .returned (.tuple #[]) ∧ Blk w3 pb 62 #[v] ∧ Below w.heap.size w w3 ∧ ∃ (l3 : List Oc), l3.Perm D ∧ w3.ownsRow w.heap.size 101 11 v l3.length (l3.flatMap occ)
theorem own_tail2 {w : World} {b n : Nat} {e : TypeId} {v : Value} {m : Nat} {xs : List Value} (h : w.ownsRow b e m v n xs) : (v = .slice none 0 0 ∧ n = 0 ∧ xs = []) ∨ ∃ g cap T, v = .slice (some ⟨g, 0, none⟩) n cap ∧ b ≤ g ∧ Blk w g e (xs ++ T).toArray ∧ n ≤ cap ∧ cap ≤ maxLen ∧ xs.length + T.length = cap * m := by
  rcases h.2 with ⟨hv, h0⟩ | ⟨g, cap, cur, hv, hg, hh, h1, h2, h3, ht⟩
  · exact .inl ⟨hv, h0, List.eq_nil_of_length_eq_zero (by rw [h.1, h0, Nat.zero_mul])⟩
  · refine .inr ⟨g, cap, cur.toList.drop (n * m), hv, hg, ?_, h1, h2, ?_⟩
    · rw [← ht, List.take_append_drop]
      exact hh
    · rw [← ht, ← List.length_append, List.take_append_drop, Array.length_toList, h3]
set_option maxRecDepth 100000 in
theorem out_mid (w W : World) (pb : Nat) (v : Value) (D : List Oc) (hown : W.ownsRow w.heap.size 101 11 v D.length (D.flatMap occ)) (hb : Below w.heap.size w W) (hpb : Blk W pb 62 #[v]) (hsm : D.length ≤ 1000000) :
    Calls Tryz.prog 111 #[.iface 62 v, .func (.func 112) #[] #[.pointer (some ⟨pb, 0, none⟩)]] W (OutMid D w pb v) := by
  rcases own_tail2 hown with ⟨rfl, h0, _⟩ | ⟨g, cap, T, rfl, hg, hblk, hcap, hcap2, hlen⟩
  · refine (slice_nil slT_oc 0 W).mono ?_
    rintro e w3 ⟨rfl, hb3⟩
    have hD : D = [] := List.eq_nil_of_length_eq_zero h0
    subst hD
    exact ⟨rfl, hpb.below hb3 hpb.lt, hb.trans (hb3.mono hb.size), [], List.Perm.refl _, by simp, .inl ⟨rfl, rfl⟩⟩
  · have hne : pb ≠ g := by
      intro e
      subst e
      unfold Blk at hpb hblk
      rw [hpb] at hblk
      injection hblk with hh
      injection hh with _ ht
      exact absurd ht (by decide)
    refine (slice_any slT_oc ⟨occ, T⟩ (fun _ => rfl) (by decide) (fun x v hv => one_oc x hv) (fun args W => enters_out args W) D g D.length cap W (outLess_on T pb g D.length cap D W hpb hne rfl) hblk rfl hsm).mono ?_
    rintro e w3 ⟨rfl, l3, hr3, hp3⟩
    have hl3 := hp3.length_eq
    have f3 := flat_length occ 11 l3 (occ_len l3)
    have fD := flat_length occ 11 D (occ_len D)
    refine ⟨rfl, hr3.box hpb hne, hb.grown hr3.kept hb.size (fun k hk => by injection hk with hk; subst hk; exact hg), l3, hp3, f3, .inr ⟨g, cap, _, by rw [hl3], hg, hr3.blk, by rw [hl3]; exact hcap, hcap2, ?_, ?_⟩⟩
    · show (l3.flatMap occ ++ T).length = _
      rw [List.length_append, f3, ← hlen, fD, hl3]
    · show (l3.flatMap occ ++ T).take (l3.length * 11) = _
      rw [← f3, List.take_left]
end Go.Proofs.YthmecidpjlaonaaGreat
namespace Go.Proofs.YthmecidpjlaonaaGreat
open Go.RowKit Go.Shelf
attribute [local go_sem ↓] Go.wp_at_zero Go.wp_at_succ loadNm loadVt loadSg loadEv loadOc
attribute [local go_sem] runNm runVt runSg runEv runOc pickRow_some rowAt_drew rowAt_drewN
/-- What Outcomes comes to. -/
def OutPost (M : Int) (p : Nm) (s : Nat) (l : List Vt) (w : World) (e : Ending) (w' : World) : Prop :=
  ∃ (v : Value) (L : List Oc) (O : List Vt), e = .returned v ∧ AccO M p (s : Int) l O ∧ (∀ o ∈ L, o.slot = (s : Int) ∧ OutS (xOf M) O o.round o.choice o.value) ∧ L.length ≤ l.length ∧ w'.ownsRow w.heap.size 101 11 v L.length (L.flatMap occ) ∧ Below w.heap.size w w'
/-- Where the first loop stands: the votes of the slot. -/
def Own1 (l : List Vt) (s : Nat) (w : World) (v iv : Value) (wr : World) : Prop :=
  ∃ (i : Nat) (D : List Vt), iv = .int .i64 (i : Int) ∧ i ≤ l.length ∧ D.length ≤ i ∧ (∀ x ∈ D, x ∈ l ∧ x.slot = (s : Int) ∧ x.kind ≤ 4) ∧ wr.ownsRow w.heap.size 31 22 v D.length (D.flatMap vtc) ∧ Below w.heap.size w wr
/-- Where the second loop stands: the map of signers. -/
def Own2 (M : Int) (s : Nat) (O : List Vt) (m : Nat) (w : World) (iv : Value) (wr : World) : Prop :=
  ∃ (i : Nat) (kl : List (Oc × Value)), iv = .int .i64 (i : Int) ∧ i ≤ O.length ∧ kl.length ≤ i ∧ MaskOK M (s : Int) O kl ∧ MapB Oc.val wr m kl ∧ w.grownBy wr (some m)
/-- Where the third loop stands: the outcomes with a quorum. -/
def Own3 (M : Int) (s : Nat) (O : List Vt) (m r pb : Nat) (kl : List (Oc × Value)) (w : World) (wr : World) : Prop :=
  ∃ (cnt : Nat) (v : Value) (L : List Oc), Rng Oc.val wr m r kl cnt ∧ Blk wr pb 62 #[v] ∧ L.length + cnt ≤ kl.length ∧ (∀ o ∈ L, o.slot = (s : Int) ∧ OutS (xOf M) O o.round o.choice o.value) ∧ wr.ownsRow w.heap.size 101 11 v L.length (L.flatMap occ) ∧ Below w.heap.size w wr

set_option maxRecDepth 100000 in
set_option maxHeartbeats 16000000 in
theorem out_any (M : Int) (p : Nm) (A : Option Addr) (n c : Nat) (l : List Vt) (s : Nat) (w0 : World) (hn : l.length = n) (hr : Rd w0 w0.heap.size A (l.flatMap vtc)) (hsm : n ≤ 1000000) (hl : ∀ v ∈ l, ValidP v) (hs : (xOf M).testBit s = true) :
    Calls Tryz.prog 68 #[.int .i64 M, p.val, .slice A n c, .int .i64 (s : Int)] w0 (OutPost M p s l w0) := by
  obtain ⟨w, hw⟩ : ∃ wa, wa = w0.alloc (.cells p.cells 29) := ⟨_, rfl⟩
  have hb0 : Below w0.heap.size w0 w := by rw [hw]; exact (Below.refl _ _).alloc (Nat.le_refl _) _
  have hBq : Blk w w0.heap.size 29 p.cells := by rw [hw]; exact Blk.new w0 _ _
  obtain ⟨q, hq⟩ : ∃ q, q = w0.heap.size := ⟨_, rfl⟩
  have HN := Lib.hid hn
  have HR := Lib.hid ((hr.below hb0).more hb0.size)
  have HL := Lib.hid hl
  have HS := Lib.hid hs
  have HW := Lib.hid hw
  rw [← hq] at hBq
  have HBq := Lib.hid hBq
  have hqw : q < w.heap.size := hBq.lt
  have HQ := Lib.hid hq
  obtain ⟨nq, hnq⟩ : ∃ n, n = popF (xOf M) 10 := ⟨_, rfl⟩
  have hnq10 : nq ≤ 10 := by rw [hnq]; exact popF_le _ 10
  have HSz : Hid (∀ X W, Calls Tryz.prog 40 #[.int .i64 X] W fun e w' => e = .returned (.int .i64 ((popF (xOf X) 10 : Nat) : Int)) ∧ w' = W) := fun X W => csizeM_any X W
  have HSzM : Hid (∀ W, Calls Tryz.prog 40 #[.int .i64 M] W fun e w' => e = .returned (.int .i64 (nq : Int)) ∧ w' = W) := fun W => by rw [hnq]; exact csizeM_any M W
  have HQu : Hid (∀ W, Calls Tryz.prog 110 #[.int .i64 (nq : Int)] W fun e w' => e = .returned (.int .i64 ((quoF nq : Nat) : Int)) ∧ w' = W) := fun W => quorum_any nq hnq10 W
  have HNq := Lib.hid hnq
  have HMid := Lib.hid (fun W W' pb v D h1 h2 h3 h4 => out_mid W W' pb v D h1 h2 h3 h4)
  clear hn hr hl hs hw hBq hq hnq
  have hmk : ∀ W : World, (Instr.makeMap 138 none).run Tryz.prog W = .ok (.map (some W.heap.size)) (W.alloc (.map #[] 0)) := fun W => rfl
  go_enter Tryz.func68, Tryz.ntmps68
  go_upto_region 1 with fail
  simp only [← HW.out, ← HQ.out]
  go_wp2
  go_loopw [9, 20] (fun v iv wr => Own1 l s w v iv wr) (fun _ iv _ => n - (intOf iv).toNat)
  case atStart => exact ⟨0, [], rfl, Nat.zero_le _, Nat.zero_le _, fun s hs => (List.not_mem_nil hs).elim, ⟨by simp, .inl ⟨rfl, rfl⟩⟩, Below.refl _ _⟩
  case round =>
    obtain ⟨i, D, rfl, hin, hDi, hD, hown, hbw⟩ := hrel
    rw [HN.out] at hin
    have HD := Lib.hid hD
    have HOwn := Lib.hid hown
    have hD6 : D.length ≤ 1000000 := by omega
    clear hD hown
    by_cases hi : i < n
    · have di : decide ((i : Int) < (n : Int)) = true := by simp; omega
      obtain ⟨x, hx⟩ : ∃ x, l[i]? = some x := ⟨_, List.getElem?_eq_getElem (by rw [HN.out]; exact hi)⟩
      obtain ⟨b, o, rfl, hb, hcell⟩ := HR.out.cells (by intro e; have := flat_length vtc 22 l (vtc_len l); rw [e, HN.out] at this; simp at this; omega)
      clear hcell
      have x1 : rowAt wr b (o + i * 22) 22 = some x.cells := (HR.out.below hbw).voteRow hx
      have HXl := Lib.hid (List.mem_of_getElem? hx)
      clear hx
      go_upto_region 5 with (refine wpList_store_blk rfl 31 (.tmp 11) (.tmp 23) rfl wr.heap.size x.cells rfl rfl 31 zeroV.cells (Blk.new wr _ _) (by rfl) (by kernel_rfl) (fun u hu => one_vt x hu) ?_; intro w4 hB4 hg4 hsz4)
      have HOwn4 : Hid (w4.ownsRow w.heap.size 31 22 u9 D.length (D.flatMap vtc)) := own_kept (HOwn.out.alloc _) hg4 (fun k hk => by
        injection hk with hk
        subst hk
        right
        intro e
        have := (HOwn.out.lt _ e).2
        omega)
      have hbw4 : Below w.heap.size w w4 := (hbw.alloc hbw.size _).grown hg4 (Nat.le_trans hbw.size (by simp)) (fun k hk => by injection hk with hk; subst hk; exact hbw.size)
      obtain ⟨z, hz⟩ : ∃ z, z = wr.heap.size := ⟨_, rfl⟩
      rw [← hz] at hB4 ⊢
      have x3 : rowAt w4 z 0 22 = some x.cells := hB4.row 22 rfl
      have x4 : w4.cell? ⟨z, 1, none⟩ = some (.int .i64 x.slot) := hB4.cell 1
      have x5 : w4.cell? ⟨z, 0, none⟩ = some (.int .i64 x.kind) := hB4.cell 0
      clear hB4 hg4 hsz4 x1 hz HOwn hbw
      try go_frame
      by_cases h1 : x.slot = (s : Int)
      · have e1 : (x.slot == (s : Int)) = true := by rw [h1]; exact beq_self_eq_true _
        have HSl := Lib.hid h1
        clear h1
        by_cases h2 : x.kind ≤ 4
        · have e2 : decide (x.kind ≤ 4) = true := by simpa using h2
          have HK := Lib.hid h2
          clear h2
          go_wp2_with ((first
            | (refine wpList_build1 rfl 65 31 (.tmp 34) rfl x.cells rfl Tryz.underlying65 (by kernel_rfl) (by decide) (by decide) ?_)
            | (at_builtin; refine wpList_app rfl (.tmp 33) (.tmp 35) _ rfl w.heap.size 31 (.agg zeroV.cells) 22 64 Tryz.underlying65 info_vote rfl (by decide) u9 D.length (D.flatMap vtc) rfl ?r0 (w4.heap.size + 1) (some ⟨w4.heap.size, 0, none⟩) 1 1 (vtc x) rfl ?r1 ?r2 ?r3 ?r4 ?r5 ?r6 ?_)))
          case r0 => exact HOwn4.out.alloc _
          case r1 => rfl
          case r2 => exact Rd.mk (by omega) (fun j u hu => by rw [Nat.zero_add, (Blk.new w4 _ _).cell]; simpa using hu)
          case r3 => exact fun u hu => one_vt x hu
          case r4 => omega
          case r5 => unfold maxLen; omega
          case r6 => have := hbw4.size; simp; omega
          intro v7 w7 hown7 hg7 hat7
          have hbw7 : Below w.heap.size w w7 := below_own (hbw4.alloc hbw4.size _) (HOwn4.out.alloc _) hg7
          have HOwn7 := Lib.hid hown7
          clear hown7 hg7 hat7 x3 x4 x5 HOwn4
          go_wp2
          go_roundw
          case rel =>
            refine ⟨i + 1, D ++ [x], by go_num, by rw [HN.out]; omega, by rw [List.length_append]; simp; omega, ?_, ?_, hbw7⟩
            · intro t ht
              rcases List.mem_append.1 ht with ht | ht
              · exact HD.out t ht
              · rw [List.mem_singleton.1 ht]; exact ⟨HXl.out, HSl.out, HK.out⟩
            · have h := HOwn7.out
              rw [List.length_append, List.flatMap_append]
              simpa using h
          case measure => simp [intOf]; omega
        · have e2 : decide (x.kind ≤ 4) = false := by simpa using h2
          clear h2
          go_wp2
          go_roundw
          case rel => exact ⟨i + 1, D, by go_num, by rw [HN.out]; omega, by omega, HD.out, HOwn4.out, hbw4⟩
          case measure => simp [intOf]; omega
      · have e1 : (x.slot == (s : Int)) = false := by simpa using h1
        clear h1
        go_wp2
        go_roundw
        case rel => exact ⟨i + 1, D, by go_num, by rw [HN.out]; omega, by omega, HD.out, HOwn4.out, hbw4⟩
        case measure => simp [intOf]; omega
    · have di : decide ((i : Int) < (n : Int)) = false := by simp; omega
      have hDn : D.length ≤ n := by omega
      obtain ⟨m, hm⟩ : ∃ m, m = wr.heap.size := ⟨_, rfl⟩
      obtain ⟨wm, hwm⟩ : ∃ wm, wm = wr.alloc (.map #[] 0) := ⟨_, rfl⟩
      have hmp : MapB Oc.val wm m [] := by rw [hwm, hm]; exact MapB.new Oc.val wr
      have hbm : Below w.heap.size w wm := by rw [hwm]; exact hbw.alloc hbw.size _
      have hownm : wm.ownsRow w.heap.size 31 22 u9 D.length (D.flatMap vtc) := by rw [hwm]; exact HOwn.out.alloc _
      have hmm : m < wm.heap.size := hmp.is.lt
      obtain ⟨A1, c1, hu9, hR1⟩ : ∃ A1 c1, u9 = .slice A1 D.length c1 ∧ Rd wm wm.heap.size A1 (D.flatMap vtc) := by
        rcases hownm.2 with ⟨rfl, h0⟩ | ⟨g, cap, cur, rfl, _⟩
        · exact ⟨none, 0, by rw [h0], .inl (List.eq_nil_of_length_eq_zero (by rw [hownm.1, h0, Nat.zero_mul]))⟩
        · exact ⟨_, cap, rfl, Rd.of_own hownm⟩
      subst hu9
      have hAcc := acc_any M p A1 D.length c1 D (s : Int) wm rfl hR1 hD6 (fun v hv => ⟨HL.out v (HD.out v hv).1, (HD.out v hv).2.2, (HD.out v hv).2.1⟩) (by simpa using HS.out)
      have HAcc := Lib.hid hAcc
      have HWm := Lib.hid hwm
      have HM := Lib.hid hm
      have HMp := Lib.hid hmp
      have y1 : rowAt wm q 0 8 = some p.cells := (HBq.out.below hbm hqw).row 8 rfl
      obtain ⟨nD, hnD⟩ : ∃ nD, nD = D.length := ⟨_, rfl⟩
      rw [← hnD] at HAcc hDn
      have HND := Lib.hid hnD
      clear hAcc hmp hwm hm hownm hR1 HOwn hD6 hDi
      rw [← HND.out]
      clear hnD
      go_upto_region 9 with fail
      simp only [← HWm.out, ← HM.out]
      go_wp2_with fail
      refine HAcc.out.mono ?_
      rintro en w3 ⟨v3, O, rfl, hO, hOn, hown3, hb3⟩
      have HO : Hid (AccO M p (s : Int) l O) := ⟨hO.1, fun x hx => ⟨(HD.out x (hO.2 x hx).1).1, (hO.2 x hx).2⟩⟩
      have HMp3 : Hid (MapB Oc.val w3 m []) := HMp.out.below hb3 hmm
      have hbw3 : Below w.heap.size w w3 := hbm.trans (hb3.mono hbm.size)
      obtain ⟨A3, c3, rfl, hR3⟩ : ∃ A1 c1, v3 = .slice A1 O.length c1 ∧ (O.flatMap vtc = [] ∨ ∃ g, A1 = some ⟨g, 0, none⟩ ∧ wm.heap.size ≤ g ∧ ∃ T, Blk w3 g 31 (O.flatMap vtc ++ T).toArray) := by
        rcases own_tail hown3 with ⟨rfl, h0, h1⟩ | ⟨g, cap, T, rfl, h1, h2, _⟩
        · exact ⟨none, 0, by rw [h0], .inl h1⟩
        · exact ⟨_, cap, rfl, .inr ⟨g, rfl, h1, T, h2⟩⟩
      obtain ⟨nO, hnO⟩ : ∃ nO, nO = O.length := ⟨_, rfl⟩
      rw [← hnO] at hOn ⊢
      have HNO : Hid (O.length = nO) := hnO.symm
      have HR3 := Lib.hid hR3
      clear hO hown3 hR3 hnO HAcc HMp y1
      go_wp2
      go_loopw [44] (fun iv wr => Own2 M s O m w3 iv wr) (fun iv _ => nO - (intOf iv).toNat)
      case atStart => exact ⟨0, [], rfl, Nat.zero_le _, Nat.le_refl _, MaskOK.nil _ _ _, HMp3.out, one_refl w3 m⟩
      case round =>
        obtain ⟨i2, kl, rfl, hin2, hkl, hmk, hmap, hgr⟩ := hrel
        rw [HNO.out] at hin2
        have HMk := Lib.hid hmk
        have HMap := Lib.hid hmap
        have HGr := Lib.hid hgr
        clear hmk hmap hgr
        by_cases hi2 : i2 < nO
        · have di2 : decide ((i2 : Int) < (nO : Int)) = true := by simp; omega
          obtain ⟨x, hx⟩ : ∃ x, O[i2]? = some x := ⟨_, List.getElem?_eq_getElem (by rw [HNO.out]; exact hi2)⟩
          obtain ⟨g, rfl, hgm, T, hT⟩ : ∃ g, A3 = some ⟨g, 0, none⟩ ∧ wm.heap.size ≤ g ∧ ∃ T, Blk w3 g 31 (O.flatMap vtc ++ T).toArray := by
            rcases HR3.out with h | h
            · have := flat_length vtc 22 O (vtc_len O)
              rw [h, HNO.out] at this
              simp at this; omega
            · exact h
          have hTr : Blk wr g 31 (O.flatMap vtc ++ T).toArray := hT.kept HGr.out (by intro e; injection e with e; omega)
          have x1 : rowAt wr g (i2 * 22) 22 = some x.cells := RowE.vt (T := T) (w0 := wr) ⟨hTr, one_refl wr g⟩ hx
          have hxO : x ∈ O := List.mem_of_getElem? hx
          have HXO := Lib.hid hxO
          have HXv := Lib.hid (HO.out.2 x hxO)
          have hmw : m < wr.heap.size := HMap.out.is.lt
          clear hx hTr hT hxO
          go_upto_region 12 with (refine wpList_store_blk rfl 31 (.tmp 14) (.tmp 47) rfl wr.heap.size x.cells rfl rfl 31 zeroV.cells (Blk.new wr _ _) (by rfl) (by kernel_rfl) (fun u hu => one_vt x hu) ?_; intro w4 hB4 hg4 hsz4)
          have HGr4 : Hid (w3.grownBy w4 (some m)) := (one_alloc HGr.out _).andThen hg4 (fun k hk => by injection hk with hk; subst hk; exact .inl HGr.out.size)
          have HMap4 : Hid (MapB Oc.val w4 m kl) := (HMap.out.alloc _).kept hg4 (by intro e; injection e with e; omega)
          obtain ⟨z, hz⟩ : ∃ z, z = wr.heap.size := ⟨_, rfl⟩
          rw [← hz] at hB4 ⊢
          have hzm : z ≠ m := by omega
          have hmw4 : m < w4.heap.size := HMap4.out.is.lt
          have x4 : w4.cell? ⟨z, 0, none⟩ = some (.int .i64 x.kind) := hB4.cell 0
          have x5 : w4.cell? ⟨z, 3, none⟩ = some (.int .i64 x.choice) := hB4.cell 3
          have HB4 := Lib.hid hB4
          clear hg4 hsz4 x1 hz HMap HGr hmw hB4
          try go_frame
          by_cases h1 : x.kind = 4
          · have e1 : (x.kind == 4) = true := by rw [h1]; rfl
            have HK := Lib.hid h1
            clear h1
            by_cases h2 : x.choice = 2
            · have e2 : (x.choice != 2) = false := by rw [h2]; rfl
              clear h2
              go_wp2
              go_roundw
              case rel => exact ⟨i2 + 1, kl, by go_num, by rw [HNO.out]; omega, by omega, HMk.out, HMap4.out, HGr4.out⟩
              case measure => simp [intOf]; omega
            · have e2 : (x.choice != 2) = true := by simpa using h2
              have HC := Lib.hid h2
              clear h2
              obtain ⟨sn, hsn9, hsn⟩ : ∃ sn : Nat, sn ≤ 9 ∧ x.signer = (sn : Int) := by
                obtain ⟨hv, _⟩ := HXv.out.2.1
                have h9 := hv.2.1
                exact ⟨x.signer.toNat, by omega, by omega⟩
              obtain ⟨k, hk⟩ : ∃ k : Oc, k = ⟨(s : Int), x.round, x.choice, x.value⟩ := ⟨_, rfl⟩
              have HKk := Lib.hid hk
              have HMb : Hid ((xOf M).testBit sn = true) := by
                have h := HXv.out.2.2.2
                rw [hsn] at h
                unfold Hid
                simpa using h
              have HSn := Lib.hid hsn
              have HCells : Hid (∀ V, Blk V z 31 x.cells → V.cell? ⟨z, 2, none⟩ = some (.int .i64 x.round) ∧ V.cell? ⟨z, 3, none⟩ = some (.int .i64 x.choice) ∧ rowAt V z 14 8 = some x.value.cells ∧ V.cell? ⟨z, 4, none⟩ = some (.int .i64 (sn : Int))) := fun V hV => ⟨hV.cell 2, hV.cell 3, x.row_value hV, by rw [← hsn]; exact hV.cell 4⟩
              clear hk hsn
              go_wp2_with fail
              refine wp_region_noPanic ?_
              refine wp_region_held_drew (S := fun V => V.cell? ⟨z, 2, none⟩ = some (.int .i64 x.round) ∧ V.cell? ⟨z, 3, none⟩ = some (.int .i64 x.choice) ∧ rowAt V z 14 8 = some x.value.cells ∧ V.cell? ⟨z, 4, none⟩ = some (.int .i64 (sn : Int))) (by kernel_rfl) (HCells.out _ HB4.out.drew) (fun hHeld => ?_)
              refine wpAnyH_takeD (some 56) (i := 0) (v := ?vh1_0) rfl rfl (by kernel_rfl) (by kernel_rfl) (by kernel_rfl) (fun _ _ _ h => h) (by rfl) ?hh1_0 (by assumption) ?_
              case hh1_0 => (intro wq hSw; (try dsimp only at hSw); go_simp; (try (with_reducible rfl)))
              go_frame
              refine wpAnyH_takeD (some 57) (i := 1) (v := ?vh1_1) rfl rfl (by kernel_rfl) (by kernel_rfl) (by kernel_rfl) (fun _ _ _ h => h) (by rfl) ?hh1_1 (by assumption) ?_
              case hh1_1 => (intro wq hSw; (try dsimp only at hSw); go_simp; (try (with_reducible rfl)))
              go_frame
              refine wpAnyH_takeD (some 58) (i := 2) (v := ?vh1_2) rfl rfl (by kernel_rfl) (by kernel_rfl) (by kernel_rfl) (fun _ _ _ h => h) (by rfl) ?hh1_2 (by assumption) ?_
              case hh1_2 => (intro wq hSw; (try dsimp only at hSw); go_simp; (try (with_reducible rfl)))
              go_frame
              refine wpAnyH_takeD (some 59) (i := 3) (v := ?vh1_3) rfl rfl (by kernel_rfl) (by kernel_rfl) (by kernel_rfl) (fun _ _ _ h => h) (by rfl) ?hh1_3 (by assumption) ?_
              case hh1_3 => (intro wq hSw; (try dsimp only at hSw); go_simp; (try (with_reducible rfl)))
              go_frame
              refine wpAnyH_takeD (some 60) (i := 4) (v := ?vh1_4) rfl rfl (by kernel_rfl) (by kernel_rfl) (by kernel_rfl) (fun _ _ _ h => h) (by rfl) ?hh1_4 (by assumption) ?_
              case hh1_4 => (intro wq hSw; (try dsimp only at hSw); go_simp; (try (with_reducible rfl)))
              go_frame
              refine wpAnyH_takeD (some 61) (i := 5) (v := ?vh1_5) rfl rfl (by kernel_rfl) (by kernel_rfl) (by kernel_rfl) (fun _ _ _ h => h) (by rfl) ?hh1_5 (by assumption) ?_
              case hh1_5 => (intro wq hSw; (try dsimp only at hSw); go_simp; (try (with_reducible rfl)))
              go_frame
              refine wpAnyH_takeD (some 62) (i := 6) (v := ?vh1_6) rfl rfl (by kernel_rfl) (by kernel_rfl) (by kernel_rfl) (fun _ _ _ h => h) (by rfl) ?hh1_6 (by assumption) ?_
              case hh1_6 => (intro wq hSw; (try dsimp only at hSw); go_simp; (try (with_reducible rfl)))
              go_frame
              refine wpAnyH_takeD (some 63) (i := 7) (v := ?vh1_7) rfl rfl (by kernel_rfl) (by kernel_rfl) (by kernel_rfl) (fun _ _ _ h => h) (by rfl) ?hh1_7 (by assumption) ?_
              case hh1_7 => (intro wq hSw; (try dsimp only at hSw); go_simp; (try (with_reducible rfl)))
              go_frame
              refine wpAnyH_takeD (some 64) (i := 8) (v := (Oc.mk (s : Int) x.round x.choice x.value).val) rfl rfl (by kernel_rfl) (by kernel_rfl) (by kernel_rfl) (fun _ _ _ h => h) (by rfl) (fun wq _ => run_buildOc (s : Int) x.round x.choice x.value (.tmp 57) (.tmp 59) (.tmp 61) (.tmp 63) rfl rfl rfl rfl rfl wq) (by assumption) ?_
              go_frame
              refine wpAnyH_takeD (some 66) (i := 10) (v := ?vh1_10) rfl rfl (by kernel_rfl) (by kernel_rfl) (by kernel_rfl) (fun _ _ _ h => h) (by rfl) ?hh1_10 (by assumption) ?_
              case hh1_10 => (intro wq hSw; (try dsimp only at hSw); go_simp; (try (with_reducible rfl)))
              go_frame
              refine wpAnyH_takeD (some 67) (i := 11) (v := ?vh1_11) rfl rfl (by kernel_rfl) (by kernel_rfl) (by kernel_rfl) (fun _ _ _ h => h) (by rfl) ?hh1_11 (by assumption) ?_
              case hh1_11 => (intro wq hSw; (try dsimp only at hSw); go_simp; (try (with_reducible rfl)))
              go_frame
              refine wpAnyH_takeD (some 68) (i := 12) (v := (.int .i64 ((2 ^ sn : Nat) : Int))) rfl rfl (by kernel_rfl) (by kernel_rfl) (by kernel_rfl) (fun _ _ _ h => h) (by rfl) (fun wq _ => run_shl1 (.tmp 67) sn rfl rfl hsn9 wq) (by assumption) ?_
              go_frame
              refine wpAnyH_ready (rs := [9, 14]) (by kernel_rfl) (by simp) ?_
              refine AllReadyH.cons rfl (fun K hK => ?_) (AllReadyH.cons rfl (fun K hK => ?_) AllReadyH.nil)
              · obtain ⟨S, hS1, hS2⟩ := HMk.out.look k; have HS1 := Lib.hid hS1; have HS2 := Lib.hid hS2; have hS10 : S < 1024 := hS2.1; clear hS1 hS2
                rw [if_pos (by rfl)]
                refine wp_ranv (.int .i64 (S : Int)) ((run_lookM (.tmp 56) (.tmp 64) rfl m k rfl (by rw [HKk.out]; rfl) (w := w4.drew) (HMap4.out.below (Below.refl w4.heap.size w4).drew hmw4)).trans (by rw [HS1.out])) ?_
                refine hK.out _ _ (HCells.out _ HB4.out.drew) (fun hHeld => ?_)
                clear hK K
                try go_frame
                refine wpAnyH_takeD (some 69) (i := 13) (v := (.int .i64 ((S ||| 2 ^ sn : Nat) : Int))) rfl rfl (by kernel_rfl) (by kernel_rfl) (by kernel_rfl) (fun _ _ _ h => h) (by rfl) (fun wq _ => run_orm (.tmp 65) (.tmp 68) S sn rfl rfl rfl hS10 hsn9 wq) (by assumption) ?_
                go_frame
                refine wpAnyH_ready (rs := [14]) (by kernel_rfl) (by simp) ?_
                refine AllReadyH.cons rfl (fun K hK => ?_) AllReadyH.nil
                rw [if_pos (by rfl)]
                refine wp_entM (.tmp 56) (.tmp 64) rfl m k rfl (by rw [HKk.out]; rfl) (w := w4.drew) (HMap4.out.below (Below.refl w4.heap.size w4).drew hmw4) ?_; intro w5 b5 v5 kl5 hE5 hU5 hl5 hg5 hs5; have HB5 : Hid (Blk w5 z 31 x.cells) := (HB4.out.drew).kept hg5 (by intro e; injection e with e; exact hzm e); have HE5 := Lib.hid hE5; have HMk5 : Hid (MaskOK M (s : Int) O kl5) := MaskOK.upd (S := 0) HMk.out hU5 (by rw [HKk.out]) (by rw [HKk.out]; exact HC.out) (MaskFor.zero M O k); clear hE5 hU5
                refine hK.out _ _ (HCells.out _ HB5.out) (fun hHeld => ?_)
                clear hK K
                try go_frame
                refine wpAnyH_takeD (some 71) (i := 15) (v := ?vh2_15) rfl rfl (by kernel_rfl) (by kernel_rfl) (by kernel_rfl) (fun _ _ _ h => h) (by rfl) ?hh2_15 (by assumption) ?_
                case hh2_15 => (intro wq hSw; (try dsimp only at hSw); go_simp; (try (with_reducible rfl)))
                go_frame
                refine wpAnyH_ready (rs := [16]) (by kernel_rfl) (by simp) ?_
                refine AllReadyH.cons rfl (fun K hK => ?_) AllReadyH.nil
                rw [if_pos (by rfl)]
                refine wp_estM (.tmp 56) (.tmp 71) (.tmp 69) rfl m b5 k (.int .i64 ((S ||| 2 ^ sn : Nat) : Int)) rfl rfl rfl (w := w5) HE5.out ?_; intro w6 kl6 hM6 hU6 hl6 hg6 hs6; have HB6 : Hid (Blk w6 z 31 x.cells) := HB5.out.kept hg6 (by intro e; injection e with e; exact hzm e); have HM6 := Lib.hid hM6; clear hM6
                refine hK.out _ _ (HCells.out _ HB6.out) (fun hHeld => ?_)
                clear hK K
                try go_frame
                refine wpAnyH_done (by kernel_rfl) ?_ _
                refine NoPanic.normal ?_
                have hgr6 : w3.grownBy w6 (some m) := ((one_drew HGr4.out).trans hg5).trans hg6
                have HMk6 : Hid (MaskOK M (s : Int) O kl6) := HMk5.out.upd hU6 (by rw [HKk.out]) (by rw [HKk.out]; exact HC.out) (HS2.out.or hsn9 HMb.out ⟨x, HXO.out, HSn.out, HK.out, by rw [HKk.out], by rw [HKk.out], by rw [HKk.out]⟩)
                have hlen6 : kl6.length ≤ i2 + 1 := by omega
                clear hU6
                go_wp2_with fail
                go_roundw
                case rel => exact ⟨i2 + 1, kl6, by go_num, by rw [HNO.out]; omega, hlen6, HMk6.out, HM6.out, hgr6⟩
                case measure => simp [intOf]; omega
              · rw [if_pos (by rfl)]
                refine wp_entM (.tmp 56) (.tmp 64) rfl m k rfl (by rw [HKk.out]; rfl) (w := w4.drew) (HMap4.out.below (Below.refl w4.heap.size w4).drew hmw4) ?_; intro w5 b5 v5 kl5 hE5 hU5 hl5 hg5 hs5; have HB5 : Hid (Blk w5 z 31 x.cells) := (HB4.out.drew).kept hg5 (by intro e; injection e with e; exact hzm e); have HE5 := Lib.hid hE5; have HMk5 : Hid (MaskOK M (s : Int) O kl5) := MaskOK.upd (S := 0) HMk.out hU5 (by rw [HKk.out]) (by rw [HKk.out]; exact HC.out) (MaskFor.zero M O k); clear hE5 hU5
                refine hK.out _ _ (HCells.out _ HB5.out) (fun hHeld => ?_)
                clear hK K
                try go_frame
                obtain ⟨S, hS1, hS2⟩ := HMk5.out.look k; have HS1 := Lib.hid hS1; have HS2 := Lib.hid hS2; have hS10 : S < 1024 := hS2.1; clear hS1 hS2
                refine wpAnyH_takeD (some 71) (i := 15) (v := ?vh3_15) rfl rfl (by kernel_rfl) (by kernel_rfl) (by kernel_rfl) (fun _ _ _ h => h) (by rfl) ?hh3_15 (by assumption) ?_
                case hh3_15 => (intro wq hSw; (try dsimp only at hSw); go_simp; (try (with_reducible rfl)))
                go_frame
                refine wpAnyH_ready (rs := [9]) (by kernel_rfl) (by simp) ?_
                refine AllReadyH.cons rfl (fun K hK => ?_) AllReadyH.nil
                rw [if_pos (by rfl)]
                refine wp_ranv (.int .i64 (S : Int)) ((run_lookM (.tmp 56) (.tmp 64) rfl m k rfl (by rw [HKk.out]; rfl) (w := w5) HE5.out.isB).trans (by rw [HS1.out])) ?_
                refine hK.out _ _ (HCells.out _ HB5.out) (fun hHeld => ?_)
                clear hK K
                try go_frame
                refine wpAnyH_takeD (some 69) (i := 13) (v := (.int .i64 ((S ||| 2 ^ sn : Nat) : Int))) rfl rfl (by kernel_rfl) (by kernel_rfl) (by kernel_rfl) (fun _ _ _ h => h) (by rfl) (fun wq _ => run_orm (.tmp 65) (.tmp 68) S sn rfl rfl rfl hS10 hsn9 wq) (by assumption) ?_
                go_frame
                refine wpAnyH_ready (rs := [16]) (by kernel_rfl) (by simp) ?_
                refine AllReadyH.cons rfl (fun K hK => ?_) AllReadyH.nil
                rw [if_pos (by rfl)]
                refine wp_estM (.tmp 56) (.tmp 71) (.tmp 69) rfl m b5 k (.int .i64 ((S ||| 2 ^ sn : Nat) : Int)) rfl rfl rfl (w := w5) HE5.out ?_; intro w6 kl6 hM6 hU6 hl6 hg6 hs6; have HB6 : Hid (Blk w6 z 31 x.cells) := HB5.out.kept hg6 (by intro e; injection e with e; exact hzm e); have HM6 := Lib.hid hM6; clear hM6
                refine hK.out _ _ (HCells.out _ HB6.out) (fun hHeld => ?_)
                clear hK K
                try go_frame
                refine wpAnyH_done (by kernel_rfl) ?_ _
                refine NoPanic.normal ?_
                have hgr6 : w3.grownBy w6 (some m) := ((one_drew HGr4.out).trans hg5).trans hg6
                have HMk6 : Hid (MaskOK M (s : Int) O kl6) := HMk5.out.upd hU6 (by rw [HKk.out]) (by rw [HKk.out]; exact HC.out) (HS2.out.or hsn9 HMb.out ⟨x, HXO.out, HSn.out, HK.out, by rw [HKk.out], by rw [HKk.out], by rw [HKk.out]⟩)
                have hlen6 : kl6.length ≤ i2 + 1 := by omega
                clear hU6
                go_wp2_with fail
                go_roundw
                case rel => exact ⟨i2 + 1, kl6, by go_num, by rw [HNO.out]; omega, hlen6, HMk6.out, HM6.out, hgr6⟩
                case measure => simp [intOf]; omega
          · have e1 : (x.kind == 4) = false := by simpa using h1
            clear h1
            go_wp2
            go_roundw
            case rel => exact ⟨i2 + 1, kl, by go_num, by rw [HNO.out]; omega, by omega, HMk.out, HMap4.out, HGr4.out⟩
            case measure => simp [intOf]; omega
        · have di2 : decide ((i2 : Int) < (nO : Int)) = false := by simp; omega
          obtain ⟨wb, hwb⟩ : ∃ wb, wb = wr := ⟨_, rfl⟩
          subst hwb
          have hkl6 : kl.length ≤ n := by omega
          have hbw5 : Below w.heap.size w wb := hbw3.grown HGr.out hbw3.size (fun k hk => by injection hk with hk; subst hk; rw [HM.out]; exact hbw.size)
          obtain ⟨pb, hpb⟩ : ∃ pb, pb = wb.heap.size := ⟨_, rfl⟩
          obtain ⟨w5, hw5⟩ : ∃ w5, w5 = wb.alloc (.cells #[.slice none 0 0] 62) := ⟨_, rfl⟩
          have hBp : Blk w5 pb 62 #[.slice none 0 0] := by rw [hw5, hpb]; exact Blk.new wb _ _
          have hmp5 : MapB Oc.val w5 m kl := by rw [hw5]; exact HMap.out.alloc _
          have hbw5' : Below wb.heap.size wb w5 := by rw [hw5]; exact (Below.refl _ _).alloc (Nat.le_refl _) _
          have hmw : m < wb.heap.size := HMap.out.is.lt
          have HW5 := Lib.hid hw5
          have HPb := Lib.hid hpb
          have hpw : wb.heap.size ≤ pb := by omega
          clear hw5 hpb HR3 HMp3
          go_upto_region 16 with fail
          simp only [← HW5.out, ← HPb.out]
          obtain ⟨r, hr⟩ : ∃ r, r = w5.heap.size := ⟨_, rfl⟩
          go_wp2_with (at_range; refine wpList_range_rng _ rfl _ 138 rfl _ _ Tryz.underlying138 m kl rfl hmp5 ?_; intro o6 cnt6 hrg6)
          have hBp6 : Blk (w5.alloc o6) pb 62 #[.slice none 0 0] := hBp.alloc _
          have hbw6 : Below wb.heap.size wb (w5.alloc o6) := hbw5'.alloc hbw5'.size _
          rw [← hr] at hrg6 ⊢
          have hrw : wb.heap.size ≤ r := by rw [hr]; exact hbw5'.size
          have hrp : r ≠ pb := by have := hBp.lt; omega
          have hmr : m ≠ r := by omega
          have hmpb : m ≠ pb := by omega
          generalize w5.alloc o6 = w6 at *
          have HRg6 := Lib.hid hrg6
          have HBp6 := Lib.hid hBp6
          clear hrg6 hBp6 hr hBp hmp5 hbw5' HW5
          go_frame
          go_loopw [17] (fun _ wx => Own3 M s O m r pb kl wb wx) (fun _ wx => itLeft m r wx)
          case atStart => exact ⟨cnt6, _, [], HRg6.out, HBp6.out, by have := HRg6.out.le; simpa using this, fun o ho => (List.not_mem_nil ho).elim, ⟨by simp, .inl ⟨rfl, rfl⟩⟩, hbw6⟩
          case round =>
            obtain ⟨cnt, v, L, hrg, hBp, hLc, hL, hown, hbx⟩ := hrel
            have HRg := Lib.hid hrg
            have HBp := Lib.hid hBp
            have HL3 := Lib.hid hL
            have HOwn := Lib.hid hown
            have y1 : wr.cell? ⟨pb, 0, none⟩ = some v := hBp.cell 0
            have hL6 : L.length ≤ 1000000 := by omega
            have hrx : r < wr.heap.size := hrg.lt
            have hpx : pb < wr.heap.size := hBp.lt
            have hmx : m < wr.heap.size := hrg.mlt
            clear hrg hBp hL hown HRg6 HBp6
            go_wp2_with (at_next; refine wpList_next_rng _ rfl _ rfl m r cnt kl rfl HRg.out ?_ ?_)
            · have HSort := Lib.hid (HMid.out wb wr pb v L HOwn.out hbx HBp.out hL6)
              clear HMid
              go_wp2_with fail
              refine HSort.out.mono ?_
              rintro en w8 ⟨rfl, hB8, hb8, l8, hp8, hown8⟩
              have z1 : w8.cell? ⟨pb, 0, none⟩ = some v := hB8.cell 0
              have HP8 := Lib.hid hp8
              have HOwn8 := Lib.hid hown8
              have hll : L.length ≤ l.length := by rw [HN.out]; omega
              clear hB8 hp8 hown8 HSort y1
              go_wp2
              go_ret
              have hbb : Below w0.heap.size w0 wb := hb0.trans (hbw5.mono hb0.size)
              exact ⟨v, l8, O, rfl, HO.out, fun o ho => HL3.out o (HP8.out.mem_iff.1 ho), by rw [HP8.out.length_eq]; exact hll, own_base HOwn8.out hbb.size, hbb.trans (hb8.mono hbb.size)⟩
            · intro k v1 w1 cnt1 hmem hrg1 hlt1 hg1 hs1 hen
              obtain ⟨j1, j2, S, hv1, j3⟩ := HMk.out (k, v1) hmem
              clear j1 j2 j3
              simp only at hv1
              subst hv1
              have HMem := Lib.hid hmem
              have hb1 : Below wb.heap.size wb w1 := hbx.grown hg1 hbx.size (fun j hj => by injection hj with hj; subst hj; exact hrw)
              have HBp1 : Hid (Blk w1 pb 62 #[v]) := HBp.out.kept hg1 (by intro e; injection e with e; exact hrp e.symm)
              have hnr : v.ownBlock ≠ some r := fun e => (HRg.out.ne_row HOwn.out).2 e.symm
              have HOwn1 : Hid (w1.ownsRow wb.heap.size 101 11 v L.length (L.flatMap occ)) := own_kept HOwn.out hg1 (fun j hj => by injection hj with hj; subst hj; exact .inr hnr)
              have HRg1 := Lib.hid hrg1
              have hr1 : r < w1.heap.size := hrg1.lt
              have hm1 : m < w1.heap.size := hrg1.mlt
              have hp1 : pb < w1.heap.size := HBp1.out.lt
              clear hmem hrg1 hg1 y1 hnr
              clear hs1
              go_upto_region 19 with fail
              obtain ⟨w4, hw4⟩ : ∃ w4, w4 = w1.alloc (.cells k.cells 101) := ⟨_, rfl⟩
              rw [← hw4]
              have HRg4 : Hid (Rng Oc.val w4 m r kl cnt1) := by unfold Hid; rw [hw4]; exact HRg1.out.alloc _
              have HBp4 : Hid (Blk w4 pb 62 #[v]) := by unfold Hid; rw [hw4]; exact HBp1.out.alloc _
              have HOwn4 : Hid (w4.ownsRow wb.heap.size 101 11 v L.length (L.flatMap occ)) := by unfold Hid; rw [hw4]; exact HOwn1.out.alloc _
              have hb4 : Below wb.heap.size wb w4 := by rw [hw4]; exact hb1.alloc hb1.size _
              have hB4 : Blk w4 w1.heap.size 101 k.cells := by rw [hw4]; exact Blk.new w1 _ _
              clear hw4
              obtain ⟨z, hz⟩ : ∃ z, z = w1.heap.size := ⟨_, rfl⟩
              rw [← hz] at hB4 ⊢
              have x3 : rowAt w4 z 0 11 = some k.cells := hB4.row 11 rfl
              have y4 : w4.cell? ⟨pb, 0, none⟩ = some v := HBp4.out.cell 0
              clear hB4 hz hen HBp1 HOwn1 hb1
              obtain ⟨a, ha⟩ : ∃ a, a = popF (xOf (S : Int)) 10 := ⟨_, rfl⟩
              have HSzS : Hid (∀ W, Calls Tryz.prog 40 #[.int .i64 (S : Int)] W fun e w' => e = .returned (.int .i64 (a : Int)) ∧ w' = W) := fun W => by rw [ha]; exact HSz.out _ W
              have HA := Lib.hid ha
              obtain ⟨qn, hqn⟩ : ∃ qn, qn = quoF nq := ⟨_, rfl⟩
              have HQn := Lib.hid hqn
              have HQu' : Hid (∀ W, Calls Tryz.prog 110 #[.int .i64 (nq : Int)] W fun e w' => e = .returned (.int .i64 (qn : Int)) ∧ w' = W) := fun W => by rw [hqn]; exact HQu.out W
              clear ha hqn
              try go_frame
              by_cases hq : qn ≤ a
              · have dq : decide ((qn : Int) ≤ (a : Int)) = true := by simp; omega
                go_wp2_with fail
                refine (HSzS.out _).mono ?_
                rintro en w5' ⟨rfl, hw5'⟩
                replace hw5' := hw5'.symm
                subst hw5'
                go_wp2_with fail
                refine (HSzM.out _).mono ?_
                rintro en w5' ⟨rfl, hw5'⟩
                replace hw5' := hw5'.symm
                subst hw5'
                go_wp2_with fail
                refine (HQu'.out _).mono ?_
                rintro en w5' ⟨rfl, hw5'⟩
                replace hw5' := hw5'.symm
                subst hw5'
                have hq' : quoF (popF (xOf M) 10) ≤ popF (xOf (S : Int)) 10 := by rw [← HNq.out, ← HQn.out, ← HA.out]; exact hq
                have HOk := Lib.hid (HMk.out.out HMem.out hq')
                clear hq'
                go_wp2_with ((first
                  | (refine wpList_build1 rfl 62 101 (.tmp 87) rfl k.cells rfl Tryz.underlying62 (by kernel_rfl) (by decide) (by decide) ?_)
                  | (at_builtin; refine wpList_app rfl (.tmp 86) (.tmp 88) _ rfl wb.heap.size 101 (.agg Oc.zero.cells) 11 32 Tryz.underlying62 info_oc rfl (by decide) v L.length (L.flatMap occ) rfl ?r0 (w4.heap.size + 1) (some ⟨w4.heap.size, 0, none⟩) 1 1 (occ k) rfl ?r1 ?r2 ?r3 ?r4 ?r5 ?r6 ?_)))
                case r0 => exact HOwn4.out.alloc _
                case r1 => rfl
                case r2 => exact Rd.mk (by omega) (fun j u hu => by rw [Nat.zero_add, (Blk.new w4 _ _).cell]; simpa using hu)
                case r3 => exact fun u hu => one_oc k hu
                case r4 => omega
                case r5 => unfold maxLen; omega
                case r6 => have := hb4.size; simp; omega
                intro v7 w7 hown7 hg7 hat7
                have hne7 : some pb ≠ v.ownBlock := own_ne HOwn4.out HBp4.out (by decide)
                have hnn := HRg4.out.ne_row HOwn4.out
                have HBp7 : Hid (Blk w7 pb 62 #[v]) := (HBp4.out.alloc _).kept hg7 hne7
                have HRg7 : Hid (Rng Oc.val w7 m r kl cnt1) := (HRg4.out.alloc _).kept hg7 hnn.1 hnn.2
                have hb7 : Below wb.heap.size wb w7 := below_own (hb4.alloc hb4.size _) (HOwn4.out.alloc _) hg7
                have hne8 : some pb ≠ v7.ownBlock := own_ne hown7 HBp7.out (by decide)
                obtain ⟨g7, cap7, rfl⟩ := ownsRow_succ hown7
                have HOwn7 := Lib.hid hown7
                have HNe := Lib.hid hne8
                have y6 : w7.cell? ⟨pb, 0, none⟩ = some v := HBp7.out.cell 0
                have y7 : w7.frozen? ⟨pb, 0, none⟩ = false := HBp7.out.frozen 0
                clear hown7 hg7 hat7 hne7 hnn hne8 y4 x3
                go_wp2
                try go_frame
                have HRg8 : Hid (Rng Oc.val (w7.setCell ⟨pb, 0, none⟩ (.slice (some ⟨g7, 0, none⟩) (L.length + 1) cap7)) m r kl cnt1) := HRg7.out.kept (one_put (p := ⟨pb, 0, none⟩) (one_refl w7 pb) rfl _) (by intro e; injection e with e; exact hmpb e) (by intro e; injection e with e; exact hrp e)
                go_roundw
                case rel =>
                  refine ⟨cnt1, _, L ++ [k], HRg8.out, HBp7.out.put 0 _, by rw [List.length_append]; simp; omega, ?_, ?_, hb7.setCell hpw _⟩
                  · intro t ht
                    rcases List.mem_append.1 ht with ht | ht
                    · exact HL3.out t ht
                    · rw [List.mem_singleton.1 ht]; exact HOk.out
                  · have h := own_kept HOwn7.out (one_put (p := ⟨pb, 0, none⟩) (one_refl w7 pb) rfl (.slice (some ⟨g7, 0, none⟩) (L.length + 1) cap7)) (fun j hj => by injection hj with hj; subst hj; exact .inr (fun e => HNe.out e.symm))
                    rw [List.length_append, List.flatMap_append]
                    simpa using h
                case measure => rw [HRg8.out.left_eq, HRg.out.left_eq]; exact hlt1
              · have dq : decide ((qn : Int) ≤ (a : Int)) = false := by simp; omega
                go_wp2_with fail
                refine (HSzS.out _).mono ?_
                rintro en w5' ⟨rfl, hw5'⟩
                replace hw5' := hw5'.symm
                subst hw5'
                go_wp2_with fail
                refine (HSzM.out _).mono ?_
                rintro en w5' ⟨rfl, hw5'⟩
                replace hw5' := hw5'.symm
                subst hw5'
                go_wp2_with fail
                refine (HQu'.out _).mono ?_
                rintro en w5' ⟨rfl, hw5'⟩
                replace hw5' := hw5'.symm
                subst hw5'
                go_wp2
                go_roundw
                case rel => exact ⟨cnt1, v, L, HRg4.out, HBp4.out, by omega, HL3.out, HOwn4.out, hb4⟩
                case measure => rw [HRg4.out.left_eq, HRg.out.left_eq]; exact hlt1
end Go.Proofs.YthmecidpjlaonaaGreat
