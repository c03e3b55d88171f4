/-
  justify's same, has, and the closures that it hands about; what they compute (sameB, pVal, supB ..). Conditions: the votes are valid; what a closure holds lies in memory below the call.
  justify's closures that call closures, and supported. Conditions: the votes are valid; what a closure holds lies in memory below the call.
  justify's prevote, and its precommit at votes other than Mixed. Conditions: the votes are valid and lie in memory below the call.
-/
import Derived.Test.YthmecidpjlaonaaGreatSGComm
import Derived.Test.YthmecidpjlaonaaGreatSGVtR
import Derived.Test.YthmecidpjlaonaaGreatSGLess
import Derived.Deep.DeepCutAuto
import Derived.Laws.EntriesVeiled
namespace Go.Proofs.YthmecidpjlaonaaGreat
open Go.RowKit Go.Shelf

def sameB (a b : Vt) : Bool := decide (a.choice = b.choice) && decide (a.value = b.value)
def supB (M : Int) (q : Nat) (v : Vt) (C : List Vt) (p : Vt → Bool) : Bool :=
  decide (bits .andNot .i64 v.support M = 0) && (decide (popF (xOf v.support) 10 = q) && (idsF (xOf v.support) 10).all fun i => C.any fun w => decide (w.signer = (i : Int)) && p w)
def pProp (v w : Vt) : Bool := decide (w.kind = 1) && sameB v w
def pEcho (v w : Vt) : Bool := decide (w.kind = 2) && sameB v w
def pVal (v w : Vt) : Bool := decide (w.kind = 4) && (decide (w.round = v.round - 1) && sameB v w)
def pMix (v w : Vt) : Bool := decide (w.kind = 4) && (decide (w.round = v.round - 1) && decide (w.choice = 2))
def pEith (v w : Vt) : Bool := pVal v w || pMix v w
def pIn (v w : Vt) : Bool := (xOf v.support).testBit w.signer.toNat && pVal v w
def pPrev (v w : Vt) : Bool := decide (w.kind = 3) && (decide (w.round = v.round - 1) && sameB v w)
def pRnd (v w : Vt) : Bool := decide (w.kind = 3) && decide (w.round = v.round)
def pRndS (v w : Vt) : Bool := pRnd v w && sameB v w
def prevB (M : Int) (q : Nat) (v : Vt) (C : List Vt) : Bool :=
  if v.round = 1 then decide (v.choice = 0) || supB M q v C (pEcho v) else (supB M q v C (pEith v) && C.any (pIn v)) || (supB M q v C (pMix v) && C.any (pPrev v))
def allowB (M : Int) (q : Nat) (v : Vt) (C : List Vt) : Bool :=
  if v.kind = 1 then decide (v.signer = v.slot) else if v.kind = 2 then C.any (pProp v) else if v.kind = 3 then prevB M q v C else supB M q v C (pRndS v)
/-- A Mixed Precommit is allowed by votes of any kind here; all others just as documented. -/
def AllowR (M : Int) (q : Nat) (v : Vt) (C : List Vt) (b : Bool) : Prop :=
  if v.kind = 4 ∧ v.choice = 2 then (b = true → (xOf M).testBit v.signer.toNat = true) else b = ((xOf M).testBit v.signer.toNat && allowB M q v C)

/-- A closure that tells p of valid votes, in every world that lies on above W0. -/
structure FitOn (n0 : Nat) (W0 : World) (g : Nat) (lb : Array Value) (p : Vt → Bool) : Prop where
  ent : ∀ args W, (callFunc g args).run Tryz.prog W = .ok (.enter g args) W
  tells : ∀ V, Below n0 W0 V → ∀ v : Vt, ValidP v → Calls Tryz.prog g (#[v.val] ++ lb) V (BoolPost V (p v))
theorem FitOn.later {n0 n1 : Nat} {W0 W1 : World} {g : Nat} {lb : Array Value} {p : Vt → Bool} (h : FitOn n0 W0 g lb p) (hb : Below n0 W0 W1) (hn : n0 ≤ n1) : FitOn n1 W1 g lb p :=
  ⟨h.ent, fun V hV v hv => h.tells V (hb.trans (hV.mono hn)) v hv⟩
/-- A box of one vote. -/
def BoxV (n0 : Nat) (W0 : World) (b : Nat) (v : Vt) : Prop := b < n0 ∧ Blk W0 b 31 v.cells
theorem BoxV.below {n0 : Nat} {W0 V : World} {b : Nat} {v : Vt} (h : BoxV n0 W0 b v) (hV : Below n0 W0 V) : Blk V b 31 v.cells := h.2.below hV h.1
set_option maxRecDepth 100000 in
set_option maxHeartbeats 2000000 in
theorem jsame_any (a b : Vt) (w : World) : Calls Tryz.prog 175 #[a.val, b.val] w (BoolPost w (sameB a b)) := by
  obtain ⟨k1, hk1⟩ : ∃ k, k = decide (a.choice = b.choice) := ⟨_, rfl⟩
  obtain ⟨k2, hk2⟩ : ∃ k, k = decide (a.value = b.value) := ⟨_, rfl⟩
  have hr : sameB a b = (k1 && k2) := by rw [hk1, hk2]; rfl
  have e1 : (a.choice == b.choice) = k1 := by rw [hk1]; rfl
  have e2 : ∀ W, (Op.equalIn 10000 29 a.value.val b.value.val).run Tryz.prog W = .ok k2 W := fun W => by rw [hk2]; exact eqNm a.value b.value W 9998
  have Hr := Lib.hid hr
  clear hk1 hk2 hr
  cases k1
  · go_enter Tryz.func175, Tryz.ntmps175
    go_wp2
    go_ret
    exact ⟨by rw [Hr.out]; rfl, ((Below.refl _ _).alloc (Nat.le_refl _) _).alloc (by simp) _⟩
  · skip
    cases k2
    · go_enter Tryz.func175, Tryz.ntmps175
      go_wp2
      go_ret
      exact ⟨by rw [Hr.out]; rfl, ((Below.refl _ _).alloc (Nat.le_refl _) _).alloc (by simp) _⟩
    · go_enter Tryz.func175, Tryz.ntmps175
      go_wp2
      go_ret
      exact ⟨by rw [Hr.out]; rfl, ((Below.refl _ _).alloc (Nat.le_refl _) _).alloc (by simp) _⟩
attribute [local go_sem ↓] Go.wp_at_zero Go.wp_at_succ loadNm loadVt loadSg loadEv
attribute [local go_sem] runNm runVt runSg runEv pickRow_some rowAt_drew rowAt_drewN
set_option maxRecDepth 100000 in
set_option maxHeartbeats 2000000 in
theorem fit_prop (v : Vt) (b n0 : Nat) (W0 : World) (hb : BoxV n0 W0 b v) : FitOn n0 W0 174 #[.pointer (some ⟨b, 0, none⟩)] (pProp v) := by
  refine ⟨enters_of Tryz.func174 (by kernel_rfl) rfl, fun V hV u hu => ?_⟩
  have hB := hb.below hV
  have hB1 := hB.alloc (Obj.cells u.cells 31)
  have x0 := hB1.row 22 rfl
  have x1 := (Blk.new V 31 u.cells).row 22 rfl
  have HS : Hid (∀ W, Calls Tryz.prog 175 #[v.val, u.val] W (BoolPost W (sameB v u))) := fun W => jsame_any v u W
  obtain ⟨k1, hk1⟩ : ∃ k, k = decide (u.kind = 1) := ⟨_, rfl⟩
  have hr : pProp v u = (k1 && sameB v u) := by rw [hk1]; rfl
  have e1 : (u.kind == 1) = k1 := by rw [hk1]; rfl
  obtain ⟨k2, hk2⟩ : ∃ k, k = sameB v u := ⟨_, rfl⟩
  rw [← hk2] at HS hr
  have hbw : Below V.heap.size V (V.alloc (Obj.cells u.cells 31)) := (Below.refl _ _).alloc (Nat.le_refl _) _
  have Hr := Lib.hid hr
  clear hk1 hk2 hr hb hB hV hu hB1
  cases k1
  · go_enter Tryz.func174, Tryz.ntmps174
    go_wp2
    go_ret
    exact ⟨by rw [Hr.out]; rfl, hbw⟩
  · go_enter Tryz.func174, Tryz.ntmps174
    go_wp2_with (go_at_call 175; refine (HS.out _).mono ?_; rintro en w2 ⟨rfl, hb2⟩)
    go_ret
    exact ⟨by rw [Hr.out]; rfl, hbw.trans (hb2.mono hbw.size)⟩
set_option maxRecDepth 100000 in
set_option maxHeartbeats 2000000 in
theorem fit_echo (v : Vt) (b n0 : Nat) (W0 : World) (hb : BoxV n0 W0 b v) : FitOn n0 W0 198 #[.pointer (some ⟨b, 0, none⟩)] (pEcho v) := by
  refine ⟨enters_of Tryz.func198 (by kernel_rfl) rfl, fun V hV u hu => ?_⟩
  have hB := hb.below hV
  have hB1 := hB.alloc (Obj.cells u.cells 31)
  have x0 := hB1.row 22 rfl
  have x1 := (Blk.new V 31 u.cells).row 22 rfl
  have HS : Hid (∀ W, Calls Tryz.prog 175 #[v.val, u.val] W (BoolPost W (sameB v u))) := fun W => jsame_any v u W
  obtain ⟨k1, hk1⟩ : ∃ k, k = decide (u.kind = 2) := ⟨_, rfl⟩
  have hr : pEcho v u = (k1 && sameB v u) := by rw [hk1]; rfl
  have e1 : (u.kind == 2) = k1 := by rw [hk1]; rfl
  obtain ⟨k2, hk2⟩ : ∃ k, k = sameB v u := ⟨_, rfl⟩
  rw [← hk2] at HS hr
  have hbw : Below V.heap.size V (V.alloc (Obj.cells u.cells 31)) := (Below.refl _ _).alloc (Nat.le_refl _) _
  have Hr := Lib.hid hr
  clear hk1 hk2 hr hb hB hV hu hB1
  cases k1
  · go_enter Tryz.func198, Tryz.ntmps198
    go_wp2
    go_ret
    exact ⟨by rw [Hr.out]; rfl, hbw⟩
  · go_enter Tryz.func198, Tryz.ntmps198
    go_wp2_with (go_at_call 175; refine (HS.out _).mono ?_; rintro en w2 ⟨rfl, hb2⟩)
    go_ret
    exact ⟨by rw [Hr.out]; rfl, hbw.trans (hb2.mono hbw.size)⟩
set_option maxRecDepth 100000 in
set_option maxHeartbeats 2000000 in
theorem fit_val (v : Vt) (hv : 1 ≤ v.round ∧ v.round ≤ 12) (b n0 : Nat) (W0 : World) (hb : BoxV n0 W0 b v) : FitOn n0 W0 199 #[.pointer (some ⟨b, 0, none⟩)] (pVal v) := by
  refine ⟨enters_of Tryz.func199 (by kernel_rfl) rfl, fun V hV u hu => ?_⟩
  have hB := hb.below hV
  have hB1 := hB.alloc (Obj.cells u.cells 31)
  have x0 := hB1.row 22 rfl
  have x1 := (Blk.new V 31 u.cells).row 22 rfl
  have c2 : (V.alloc (Obj.cells u.cells 31)).cell? ⟨b, 2, none⟩ = some (I v.round) := hB1.cell 2
  have HS : Hid (∀ W, Calls Tryz.prog 175 #[v.val, u.val] W (BoolPost W (sameB v u))) := fun W => jsame_any v u W
  obtain ⟨k1, hk1⟩ : ∃ k, k = decide (u.kind = 4) := ⟨_, rfl⟩
  obtain ⟨k2, hk2⟩ : ∃ k, k = decide (u.round = v.round - 1) := ⟨_, rfl⟩
  obtain ⟨k3, hk3⟩ : ∃ k, k = sameB v u := ⟨_, rfl⟩
  have hr : pVal v u = (k1 && (k2 && k3)) := by rw [hk1, hk2, hk3]; rfl
  have e1 : (u.kind == 4) = k1 := by rw [hk1]; rfl
  have e2 : (u.round == v.round - 1) = k2 := by rw [hk2]; rfl
  obtain ⟨v1, v2⟩ := hv
  rw [← hk3] at HS
  have hbw : Below V.heap.size V (V.alloc (Obj.cells u.cells 31)) := (Below.refl _ _).alloc (Nat.le_refl _) _
  have Hr := Lib.hid hr
  clear hk1 hk2 hk3 hr hb hB hV hu hB1
  cases k1
  · go_enter Tryz.func199, Tryz.ntmps199
    go_wp2
    go_ret
    exact ⟨by rw [Hr.out]; rfl, hbw⟩
  · skip
    cases k2
    · go_enter Tryz.func199, Tryz.ntmps199
      go_wp2
      go_ret
      exact ⟨by rw [Hr.out]; rfl, hbw⟩
    · go_enter Tryz.func199, Tryz.ntmps199
      go_wp2_with (go_at_call 175; refine (HS.out _).mono ?_; rintro en w2 ⟨rfl, hb2⟩)
      go_ret
      exact ⟨by rw [Hr.out]; rfl, hbw.trans (hb2.mono hbw.size)⟩
set_option maxRecDepth 100000 in
set_option maxHeartbeats 2000000 in
theorem fit_mix (v : Vt) (hv : 1 ≤ v.round ∧ v.round ≤ 12) (b n0 : Nat) (W0 : World) (hb : BoxV n0 W0 b v) : FitOn n0 W0 200 #[.pointer (some ⟨b, 0, none⟩)] (pMix v) := by
  refine ⟨enters_of Tryz.func200 (by kernel_rfl) rfl, fun V hV u hu => ?_⟩
  have hB := hb.below hV
  have hB1 := hB.alloc (Obj.cells u.cells 31)
  have x0 := hB1.row 22 rfl
  have x1 := (Blk.new V 31 u.cells).row 22 rfl
  have c2 : (V.alloc (Obj.cells u.cells 31)).cell? ⟨b, 2, none⟩ = some (I v.round) := hB1.cell 2
  obtain ⟨k1, hk1⟩ : ∃ k, k = decide (u.kind = 4) := ⟨_, rfl⟩
  obtain ⟨k2, hk2⟩ : ∃ k, k = decide (u.round = v.round - 1) := ⟨_, rfl⟩
  obtain ⟨k3, hk3⟩ : ∃ k, k = decide (u.choice = 2) := ⟨_, rfl⟩
  have hr : pMix v u = (k1 && (k2 && k3)) := by rw [hk1, hk2, hk3]; rfl
  have e1 : (u.kind == 4) = k1 := by rw [hk1]; rfl
  have e2 : (u.round == v.round - 1) = k2 := by rw [hk2]; rfl
  obtain ⟨v1, v2⟩ := hv
  have e3 : (u.choice == 2) = k3 := by rw [hk3]; rfl
  have hbw : Below V.heap.size V (V.alloc (Obj.cells u.cells 31)) := (Below.refl _ _).alloc (Nat.le_refl _) _
  have Hr := Lib.hid hr
  clear hk1 hk2 hk3 hr hb hB hV hu hB1
  cases k1
  · go_enter Tryz.func200, Tryz.ntmps200
    go_wp2
    go_ret
    exact ⟨by rw [Hr.out]; rfl, hbw⟩
  · skip
    cases k2
    · go_enter Tryz.func200, Tryz.ntmps200
      go_wp2
      go_ret
      exact ⟨by rw [Hr.out]; rfl, hbw⟩
    · go_enter Tryz.func200, Tryz.ntmps200
      go_wp2
      go_ret
      exact ⟨by rw [Hr.out]; rfl, hbw⟩
set_option maxRecDepth 100000 in
set_option maxHeartbeats 2000000 in
theorem fit_prev (v : Vt) (hv : 1 ≤ v.round ∧ v.round ≤ 12) (b n0 : Nat) (W0 : World) (hb : BoxV n0 W0 b v) : FitOn n0 W0 203 #[.pointer (some ⟨b, 0, none⟩)] (pPrev v) := by
  refine ⟨enters_of Tryz.func203 (by kernel_rfl) rfl, fun V hV u hu => ?_⟩
  have hB := hb.below hV
  have hB1 := hB.alloc (Obj.cells u.cells 31)
  have x0 := hB1.row 22 rfl
  have x1 := (Blk.new V 31 u.cells).row 22 rfl
  have c2 : (V.alloc (Obj.cells u.cells 31)).cell? ⟨b, 2, none⟩ = some (I v.round) := hB1.cell 2
  have HS : Hid (∀ W, Calls Tryz.prog 175 #[v.val, u.val] W (BoolPost W (sameB v u))) := fun W => jsame_any v u W
  obtain ⟨k1, hk1⟩ : ∃ k, k = decide (u.kind = 3) := ⟨_, rfl⟩
  obtain ⟨k2, hk2⟩ : ∃ k, k = decide (u.round = v.round - 1) := ⟨_, rfl⟩
  obtain ⟨k3, hk3⟩ : ∃ k, k = sameB v u := ⟨_, rfl⟩
  have hr : pPrev v u = (k1 && (k2 && k3)) := by rw [hk1, hk2, hk3]; rfl
  have e1 : (u.kind == 3) = k1 := by rw [hk1]; rfl
  have e2 : (u.round == v.round - 1) = k2 := by rw [hk2]; rfl
  obtain ⟨v1, v2⟩ := hv
  rw [← hk3] at HS
  have hbw : Below V.heap.size V (V.alloc (Obj.cells u.cells 31)) := (Below.refl _ _).alloc (Nat.le_refl _) _
  have Hr := Lib.hid hr
  clear hk1 hk2 hk3 hr hb hB hV hu hB1
  cases k1
  · go_enter Tryz.func203, Tryz.ntmps203
    go_wp2
    go_ret
    exact ⟨by rw [Hr.out]; rfl, hbw⟩
  · skip
    cases k2
    · go_enter Tryz.func203, Tryz.ntmps203
      go_wp2
      go_ret
      exact ⟨by rw [Hr.out]; rfl, hbw⟩
    · go_enter Tryz.func203, Tryz.ntmps203
      go_wp2_with (go_at_call 175; refine (HS.out _).mono ?_; rintro en w2 ⟨rfl, hb2⟩)
      go_ret
      exact ⟨by rw [Hr.out]; rfl, hbw.trans (hb2.mono hbw.size)⟩
set_option maxRecDepth 100000 in
set_option maxHeartbeats 2000000 in
theorem fit_rnd (v : Vt) (b n0 : Nat) (W0 : World) (hb : BoxV n0 W0 b v) : FitOn n0 W0 204 #[.pointer (some ⟨b, 0, none⟩)] (pRnd v) := by
  refine ⟨enters_of Tryz.func204 (by kernel_rfl) rfl, fun V hV u hu => ?_⟩
  have hB := hb.below hV
  have hB1 := hB.alloc (Obj.cells u.cells 31)
  have c2 : (V.alloc (Obj.cells u.cells 31)).cell? ⟨b, 2, none⟩ = some (I v.round) := hB1.cell 2
  obtain ⟨k1, hk1⟩ : ∃ k, k = decide (u.kind = 3) := ⟨_, rfl⟩
  obtain ⟨k2, hk2⟩ : ∃ k, k = decide (u.round = v.round) := ⟨_, rfl⟩
  have hr : pRnd v u = (k1 && k2) := by rw [hk1, hk2]; rfl
  have e1 : (u.kind == 3) = k1 := by rw [hk1]; rfl
  have e2 : (u.round == v.round) = k2 := by rw [hk2]; rfl
  have hbw : Below V.heap.size V (V.alloc (Obj.cells u.cells 31)) := (Below.refl _ _).alloc (Nat.le_refl _) _
  have Hr := Lib.hid hr
  clear hk1 hk2 hr hb hB hV hu hB1
  cases k1
  · go_enter Tryz.func204, Tryz.ntmps204
    go_wp2
    go_ret
    exact ⟨by rw [Hr.out]; rfl, hbw⟩
  · go_enter Tryz.func204, Tryz.ntmps204
    go_wp2
    go_ret
    exact ⟨by rw [Hr.out]; rfl, hbw⟩
set_option maxRecDepth 100000 in
set_option maxHeartbeats 2000000 in
theorem jhas_any (M : Int) (q nC : Nat) (A : Option Addr) (c : Nat) (C : List Vt) (g : Nat) (lb : Array Value) (p : Vt → Bool) (w : World) (hn : C.length = nC) (hr : Rd w w.heap.size A (C.flatMap vtc)) (hv : ∀ v ∈ C, ValidP v) (hf : FitOn w.heap.size w g lb p) (hsm : nC ≤ 1000000) :
    Calls Tryz.prog 173 #[.agg #[.int .i64 M, .int .i64 (q : Int), .slice A nC c], .func (.func g) #[] lb] w (BoolPost w (C.any p)) := by
  have HN := Lib.hid hn
  have HR := Lib.hid hr
  have HV := Lib.hid hv
  have HF := Lib.hid hf
  clear hn hr hv hf
  have hbw0 : Below w.heap.size w (w.alloc (.cells #[.int .i64 M, .int .i64 (q : Int), .slice A nC c] 190)) := (Below.refl _ _).alloc (Nat.le_refl _) _
  go_enter Tryz.func173, Tryz.ntmps173
  go_wp2
  go_loopw [10] (fun iv wr => ∃ i : Nat, iv = .int .i64 (i : Int) ∧ i ≤ nC ∧ (C.take i).any p = false ∧ Below w.heap.size w wr) (fun iv _ => nC - (intOf iv).toNat)
  case atStart => exact ⟨0, rfl, by omega, by simp, hbw0⟩
  case round =>
    obtain ⟨i, rfl, hin, hno, hbw⟩ := hrel
    have HNo := Lib.hid hno
    clear hno
    by_cases hi : i < nC
    · have di : decide ((i : Int) < (nC : Int)) = true := by simp; omega
      have ik : (i : Int) < (nC : Int) := by omega
      have hil : i ≤ 1000000 := by omega
      obtain ⟨v, hvi⟩ : ∃ v, C[i]? = some v := ⟨_, List.getElem?_eq_getElem (by rw [HN.out]; exact hi)⟩
      obtain ⟨b, o, rfl, hb, hcell⟩ := HR.out.cells (by intro e; have := flat_length vtc 22 C (vtc_len C); rw [e, HN.out] at this; simp at this; omega)
      clear hcell
      have x1 : rowAt wr b (o + i * 22) 22 = some v.cells := (HR.out.below hbw).voteRow hvi
      have HP := Lib.hid HF.out.tells
      have eg := HF.out.ent
      have hvv := HV.out v (List.mem_of_getElem? hvi)
      have HStep : Hid ((C.take (i + 1)).any p = ((C.take i).any p || p v)) := by
        unfold Hid
        rw [List.take_add_one, hvi, List.any_append]
        simp
      have HAny : Hid (p v = true → C.any p = true) := fun h => List.any_eq_true.2 ⟨v, List.mem_of_getElem? hvi, h⟩
      clear hvi
      have HVv := Lib.hid hvv
      clear hvv
      obtain ⟨pv, hpv⟩ : ∃ k, k = p v := ⟨_, rfl⟩
      have HPv := Lib.hid hpv
      clear hpv
      go_upto_region 4 with (refine wpList_store_blk rfl 31 (.tmp 6) (.tmp 13) rfl wr.heap.size v.cells rfl rfl 31 zeroV.cells (Blk.new wr _ _) (by rfl) (by kernel_rfl) (fun u hu => one_vt v hu) ?_; intro w4 hB4 hg4 hsz4)
      have hbw4 : Below w.heap.size w w4 := (hbw.alloc hbw.size _).grown hg4 (Nat.le_trans hbw.size (by simp)) (fun k hk => by injection hk with hk; subst hk; exact hbw.size)
      have x4 := hB4.row 22 rfl
      clear x1 hB4 hg4 hsz4
      try go_frame
      go_wp2_with fail
      refine (HP.out _ hbw4 v HVv.out).mono ?_
      rw [← HPv.out]
      rintro en w5 ⟨rfl, hb5⟩
      have hbw5 := hbw4.trans (hb5.mono hbw4.size)
      cases pv with
      | true =>
        go_wp2
        go_ret
        exact ⟨by rw [HAny.out HPv.out.symm]; rfl, hbw5⟩
      | false =>
        go_wp2
        go_roundw
        case rel => exact ⟨i + 1, by go_num, by omega, by rw [HStep.out, HNo.out, ← HPv.out]; rfl, hbw5⟩
        case measure => simp [intOf]; omega
    · have di : decide ((i : Int) < (nC : Int)) = false := by simp; omega
      have hin' : i = nC := by omega
      go_wp2
      go_ret
      refine ⟨?_, hbw⟩
      have := HNo.out
      rw [hin', ← HN.out, List.take_length] at this
      rw [this]
      rfl
end Go.Proofs.YthmecidpjlaonaaGreat
namespace Go.Proofs.YthmecidpjlaonaaGreat
open Go.RowKit Go.Shelf
attribute [local go_sem ↓] Go.wp_at_zero Go.wp_at_succ loadNm loadVt loadSg loadEv
attribute [local go_sem] runNm runVt runSg runEv pickRow_some rowAt_drew rowAt_drewN
/-- A box of one function value. -/
def BoxF (n0 : Nat) (W0 : World) (b g : Nat) (lb : Array Value) : Prop := b < n0 ∧ Blk W0 b 88 #[.func (.func g) #[] lb]
theorem BoxF.below {n0 : Nat} {W0 V : World} {b g : Nat} {lb : Array Value} (h : BoxF n0 W0 b g lb) (hV : Below n0 W0 V) : Blk V b 88 #[.func (.func g) #[] lb] := h.2.below hV h.1
theorem chasI_any (M i : Int) (h0 : 0 ≤ i) (h9 : i ≤ 9) (w : World) : Calls Tryz.prog 67 #[.int .i64 M, .int .i64 i] w fun e w' => e = .returned (.bool ((xOf M).testBit i.toNat)) ∧ w' = w := by
  obtain ⟨n, rfl⟩ : ∃ n : Nat, i = (n : Int) := ⟨i.toNat, by omega⟩
  rw [Int.toNat_natCast]
  exact chas_any M n (by omega) w

set_option maxRecDepth 100000 in
set_option maxHeartbeats 2000000 in
theorem fit_sup (i : Nat) (p : Vt → Bool) (bi bf g n0 : Nat) (lb : Array Value) (W0 : World) (hi : bi < n0 ∧ Blk W0 bi 3 #[.int .i64 (i : Int)]) (hf : BoxF n0 W0 bf g lb) (hF : FitOn n0 W0 g lb p) (hn : n0 ≤ W0.heap.size) :
    FitOn n0 W0 216 #[.pointer (some ⟨bi, 0, none⟩), .pointer (some ⟨bf, 0, none⟩)] (fun w => decide (w.signer = (i : Int)) && p w) := by
  refine ⟨enters_of Tryz.func216 (by kernel_rfl) rfl, fun V hV u hu => ?_⟩
  have hbw : Below V.heap.size V (V.alloc (Obj.cells u.cells 31)) := (Below.refl _ _).alloc (Nat.le_refl _) _
  have x1 := (Blk.new V 31 u.cells).row 22 rfl
  have c1 : (V.alloc (Obj.cells u.cells 31)).cell? ⟨bi, 0, none⟩ = some (.int .i64 (i : Int)) := ((hi.2.below hV hi.1).alloc _).cell 0
  have c2 : (V.alloc (Obj.cells u.cells 31)).cell? ⟨bf, 0, none⟩ = some (.func (.func g) #[] lb) := ((hf.below hV).alloc _).cell 0
  have HP : Hid (∀ W, Below V.heap.size V W → Calls Tryz.prog g (#[u.val] ++ lb) W (BoolPost W (p u))) := fun W hW => hF.tells W (hV.trans (hW.mono (Nat.le_trans hn hV.size))) u hu
  have eg := hF.ent
  obtain ⟨k1, hk1⟩ : ∃ k, k = decide (u.signer = (i : Int)) := ⟨_, rfl⟩
  obtain ⟨k2, hk2⟩ : ∃ k, k = p u := ⟨_, rfl⟩
  have e1 : (u.signer == (i : Int)) = k1 := by rw [hk1]; rfl
  rw [← hk1, ← hk2]
  rw [← hk2] at HP
  clear hk1 hk2 hu hi hf hF hn hV
  cases k1
  · go_enter Tryz.func216, Tryz.ntmps216
    go_wp2
    go_ret
    exact ⟨rfl, hbw⟩
  · go_enter Tryz.func216, Tryz.ntmps216
    go_wp2_with fail
    refine (HP.out _ hbw).mono ?_
    rintro en w2 ⟨rfl, hb2⟩
    go_wp2
    go_ret
    exact ⟨rfl, hbw.trans (hb2.mono hbw.size)⟩
set_option maxRecDepth 100000 in
set_option maxHeartbeats 2000000 in
theorem fit_eith (p1 p2 : Vt → Bool) (b1 b2 g1 g2 n0 : Nat) (l1 l2 : Array Value) (W0 : World) (h1 : BoxF n0 W0 b1 g1 l1) (h2 : BoxF n0 W0 b2 g2 l2) (hF1 : FitOn n0 W0 g1 l1 p1) (hF2 : FitOn n0 W0 g2 l2 p2) (hn : n0 ≤ W0.heap.size) :
    FitOn n0 W0 201 #[.pointer (some ⟨b1, 0, none⟩), .pointer (some ⟨b2, 0, none⟩)] (fun w => p1 w || p2 w) := by
  refine ⟨enters_of Tryz.func201 (by kernel_rfl) rfl, fun V hV u hu => ?_⟩
  have hbw : Below V.heap.size V (V.alloc (Obj.cells u.cells 31)) := (Below.refl _ _).alloc (Nat.le_refl _) _
  have hB := Blk.new V 31 u.cells
  have x1 := hB.row 22 rfl
  have c1 : (V.alloc (Obj.cells u.cells 31)).cell? ⟨b1, 0, none⟩ = some (.func (.func g1) #[] l1) := ((h1.below hV).alloc _).cell 0
  have HP1 : Hid (∀ W, Below V.heap.size V W → Calls Tryz.prog g1 (#[u.val] ++ l1) W (BoolPost W (p1 u))) := fun W hW => hF1.tells W (hV.trans (hW.mono (Nat.le_trans hn hV.size))) u hu
  have HP2 : Hid (∀ W, Below V.heap.size V W → Calls Tryz.prog g2 (#[u.val] ++ l2) W (BoolPost W (p2 u))) := fun W hW => hF2.tells W (hV.trans (hW.mono (Nat.le_trans hn hV.size))) u hu
  have HC2 : Hid (∀ W, Below V.heap.size V W → W.cell? ⟨b2, 0, none⟩ = some (.func (.func g2) #[] l2)) := fun W hW => (h2.below (hV.trans (hW.mono (Nat.le_trans hn hV.size)))).cell 0
  have HX : Hid (∀ W, Below (V.alloc (Obj.cells u.cells 31)).heap.size (V.alloc (Obj.cells u.cells 31)) W → rowAt W V.heap.size 0 22 = some u.cells) := fun W hW => (hB.below hW hB.lt).row 22 rfl
  have eg1 := hF1.ent
  have eg2 := hF2.ent
  obtain ⟨k1, hk1⟩ : ∃ k, k = p1 u := ⟨_, rfl⟩
  obtain ⟨k2, hk2⟩ : ∃ k, k = p2 u := ⟨_, rfl⟩
  rw [← hk1, ← hk2]
  rw [← hk1] at HP1
  rw [← hk2] at HP2
  clear hk1 hk2 hu h1 h2 hF1 hF2 hn hV hB
  go_enter Tryz.func201, Tryz.ntmps201
  go_wp2_with fail
  refine (HP1.out _ hbw).mono ?_
  rintro en w2 ⟨rfl, hb2⟩
  have hbw2 := hbw.trans (hb2.mono hbw.size)
  have x2 := HX.out _ hb2
  have c2 := HC2.out _ hbw2
  clear x1 c1
  cases k1
  · go_wp2_with fail
    refine (HP2.out _ hbw2).mono ?_
    rintro en w3 ⟨rfl, hb3⟩
    go_wp2
    go_ret
    exact ⟨rfl, hbw2.trans (hb3.mono hbw2.size)⟩
  · go_wp2
    go_ret
    exact ⟨rfl, hbw2⟩
set_option maxRecDepth 100000 in
set_option maxHeartbeats 2000000 in
theorem fit_in (v : Vt) (p : Vt → Bool) (b1 b2 g n0 : Nat) (lb : Array Value) (W0 : World) (h1 : BoxV n0 W0 b1 v) (h2 : BoxF n0 W0 b2 g lb) (hF : FitOn n0 W0 g lb p) (hn : n0 ≤ W0.heap.size) :
    FitOn n0 W0 202 #[.pointer (some ⟨b1, 0, none⟩), .pointer (some ⟨b2, 0, none⟩)] (fun w => (xOf v.support).testBit w.signer.toNat && p w) := by
  refine ⟨enters_of Tryz.func202 (by kernel_rfl) rfl, fun V hV u hu => ?_⟩
  have hbw : Below V.heap.size V (V.alloc (Obj.cells u.cells 31)) := (Below.refl _ _).alloc (Nat.le_refl _) _
  have x1 := (Blk.new V 31 u.cells).row 22 rfl
  have c1 : (V.alloc (Obj.cells u.cells 31)).cell? ⟨b1, 5, none⟩ = some (I v.support) := ((h1.below hV).alloc _).cell 5
  have c2 : (V.alloc (Obj.cells u.cells 31)).cell? ⟨b2, 0, none⟩ = some (.func (.func g) #[] lb) := ((h2.below hV).alloc _).cell 0
  have HP : Hid (∀ W, Below V.heap.size V W → Calls Tryz.prog g (#[u.val] ++ lb) W (BoolPost W (p u))) := fun W hW => hF.tells W (hV.trans (hW.mono (Nat.le_trans hn hV.size))) u hu
  have HA : Hid (∀ W, Calls Tryz.prog 67 #[.int .i64 v.support, .int .i64 u.signer] W fun e w' => e = .returned (.bool ((xOf v.support).testBit u.signer.toNat)) ∧ w' = W) := fun W => chasI_any _ _ hu.2.1.1 hu.2.1.2 W
  have eg := hF.ent
  obtain ⟨k1, hk1⟩ : ∃ k, k = (xOf v.support).testBit u.signer.toNat := ⟨_, rfl⟩
  obtain ⟨k2, hk2⟩ : ∃ k, k = p u := ⟨_, rfl⟩
  rw [← hk1, ← hk2]
  rw [← hk1] at HA
  rw [← hk2] at HP
  clear hk1 hk2 hu h1 h2 hF hn hV
  cases k1
  · go_enter Tryz.func202, Tryz.ntmps202
    go_wp2_with (go_at_call 67; refine (HA.out _).mono ?_; rintro en w2 ⟨rfl, hw2⟩; replace hw2 := hw2.symm; subst hw2)
    go_ret
    exact ⟨rfl, hbw⟩
  · go_enter Tryz.func202, Tryz.ntmps202
    go_wp2_with (go_at_call 67; refine (HA.out _).mono ?_; rintro en w2 ⟨rfl, hw2⟩; replace hw2 := hw2.symm; subst hw2)
    refine (HP.out _ hbw).mono ?_
    rintro en w3 ⟨rfl, hb3⟩
    go_wp2
    go_ret
    exact ⟨rfl, hbw.trans (hb3.mono hbw.size)⟩
set_option maxRecDepth 100000 in
set_option maxHeartbeats 2000000 in
theorem fit_rnds (v : Vt) (p : Vt → Bool) (b1 b2 g n0 : Nat) (lb : Array Value) (W0 : World) (h1 : BoxF n0 W0 b1 g lb) (h2 : BoxV n0 W0 b2 v) (hF : FitOn n0 W0 g lb p) (hn : n0 ≤ W0.heap.size) :
    FitOn n0 W0 205 #[.pointer (some ⟨b1, 0, none⟩), .pointer (some ⟨b2, 0, none⟩)] (fun w => p w && sameB v w) := by
  refine ⟨enters_of Tryz.func205 (by kernel_rfl) rfl, fun V hV u hu => ?_⟩
  have hbw : Below V.heap.size V (V.alloc (Obj.cells u.cells 31)) := (Below.refl _ _).alloc (Nat.le_refl _) _
  have hB := Blk.new V 31 u.cells
  have x1 := hB.row 22 rfl
  have c1 : (V.alloc (Obj.cells u.cells 31)).cell? ⟨b1, 0, none⟩ = some (.func (.func g) #[] lb) := ((h1.below hV).alloc _).cell 0
  have HP : Hid (∀ W, Below V.heap.size V W → Calls Tryz.prog g (#[u.val] ++ lb) W (BoolPost W (p u))) := fun W hW => hF.tells W (hV.trans (hW.mono (Nat.le_trans hn hV.size))) u hu
  have HR2 : Hid (∀ W, Below V.heap.size V W → rowAt W b2 0 22 = some v.cells) := fun W hW => (h2.below (hV.trans (hW.mono (Nat.le_trans hn hV.size)))).row 22 rfl
  have HX : Hid (∀ W, Below (V.alloc (Obj.cells u.cells 31)).heap.size (V.alloc (Obj.cells u.cells 31)) W → rowAt W V.heap.size 0 22 = some u.cells) := fun W hW => (hB.below hW hB.lt).row 22 rfl
  have HS : Hid (∀ W, Calls Tryz.prog 175 #[v.val, u.val] W (BoolPost W (sameB v u))) := fun W => jsame_any v u W
  have eg := hF.ent
  obtain ⟨k1, hk1⟩ : ∃ k, k = p u := ⟨_, rfl⟩
  obtain ⟨k2, hk2⟩ : ∃ k, k = sameB v u := ⟨_, rfl⟩
  rw [← hk1, ← hk2]
  rw [← hk1] at HP
  rw [← hk2] at HS
  clear hk1 hk2 hu h1 h2 hF hn hV hB
  go_enter Tryz.func205, Tryz.ntmps205
  go_wp2_with fail
  refine (HP.out _ hbw).mono ?_
  rintro en w2 ⟨rfl, hb2⟩
  have hbw2 := hbw.trans (hb2.mono hbw.size)
  have x2 := HX.out _ hb2
  have x3 := HR2.out _ hbw2
  clear x1 c1
  cases k1
  · go_wp2
    go_ret
    exact ⟨rfl, hbw2⟩
  · go_wp2_with (go_at_call 175; refine (HS.out _).mono ?_; rintro en w3 ⟨rfl, hb3⟩)
    go_ret
    exact ⟨rfl, hbw2.trans (hb3.mono hbw2.size)⟩
set_option maxRecDepth 100000 in
set_option maxHeartbeats 4000000 in
theorem jsup_any (M : Int) (q nC : Nat) (A : Option Addr) (c : Nat) (C : List Vt) (v : Vt) (g : Nat) (lb : Array Value) (p : Vt → Bool) (w : World) (hn : C.length = nC) (hr : Rd w w.heap.size A (C.flatMap vtc)) (hv : ∀ v ∈ C, ValidP v) (hf : FitOn w.heap.size w g lb p) (hsm : nC ≤ 1000000) (hq : q ≤ 10) :
    Calls Tryz.prog 197 #[.agg #[.int .i64 M, .int .i64 (q : Int), .slice A nC c], v.val, .func (.func g) #[] lb] w (BoolPost w (supB M q v C p)) := by
  obtain ⟨W3, hW3⟩ : ∃ W3, W3 = ((w.alloc (.cells #[.int .i64 M, .int .i64 (q : Int), .slice A nC c] 190)).alloc (.cells v.cells 31)).alloc (.cells #[.func (.func g) #[] lb] 88) := ⟨_, rfl⟩
  have hbw3 : Below w.heap.size w W3 := by rw [hW3]; exact (((Below.refl _ _).alloc (Nat.le_refl _) _).alloc (by simp) _).alloc (by simp; omega) _
  have hs3 : W3.heap.size = w.heap.size + 3 := by rw [hW3]; simp
  have hBc : Blk W3 w.heap.size 190 #[.int .i64 M, .int .i64 (q : Int), .slice A nC c] := by rw [hW3]; exact ((Blk.new w _ _).alloc _).alloc _
  have hBv : Blk W3 (w.heap.size + 1) 31 v.cells := by
    have h := (Blk.new (w.alloc (.cells #[.int .i64 M, .int .i64 (q : Int), .slice A nC c] 190)) 31 v.cells).alloc (.cells #[.func (.func g) #[] lb] 88)
    rw [World.size_alloc] at h
    rw [hW3]; exact h
  have hBf : Blk W3 (w.heap.size + 1 + 1) 88 #[.func (.func g) #[] lb] := by
    have h := Blk.new ((w.alloc (.cells #[.int .i64 M, .int .i64 (q : Int), .slice A nC c] 190)).alloc (.cells v.cells 31)) 88 #[.func (.func g) #[] lb]
    rw [World.size_alloc, World.size_alloc] at h
    rw [hW3]; exact h
  obtain ⟨k1, hk1⟩ : ∃ k, k = decide (bits .andNot .i64 v.support M = 0) := ⟨_, rfl⟩
  have e1 : (bits .andNot .i64 v.support M == 0) = k1 := by rw [hk1]; rfl
  obtain ⟨s, hs⟩ : ∃ s, s = popF (xOf v.support) 10 := ⟨_, rfl⟩
  obtain ⟨L, hL⟩ : ∃ L, L = idsF (xOf v.support) 10 := ⟨_, rfl⟩
  obtain ⟨P, hP⟩ : ∃ P : Nat → Bool, P = fun i : Nat => C.any fun w => decide (w.signer = (i : Int)) && p w := ⟨_, rfl⟩
  have hres : supB M q v C p = (k1 && (decide (s = q) && L.all P)) := by rw [hk1, hs, hL, hP]; rfl
  have HSz : Hid (∀ W, Calls Tryz.prog 40 #[.int .i64 v.support] W fun e w' => e = .returned (.int .i64 ((s : Nat) : Int)) ∧ w' = W) := fun W => by rw [hs]; exact csizeM_any v.support W
  have HId : Hid (∀ W, Calls Tryz.prog 215 #[.int .i64 v.support] W fun e w' => ∃ u, e = .returned u ∧ w'.ownsRow W.heap.size 3 1 u L.length (L.map fun i : Nat => Value.int .i64 (i : Int)) ∧ Below W.heap.size W w') := fun W => by rw [hL]; exact ids_any v.support W
  have HL10 : Hid (L.length ≤ 10) := by unfold Hid; rw [hL]; exact idsF_len _ _
  have HHas : Hid (∀ (i bi : Nat) W, Below W3.heap.size W3 W → W3.heap.size ≤ bi → Blk W bi 3 #[.int .i64 (i : Int)] → Calls Tryz.prog 173 #[.agg #[.int .i64 M, .int .i64 (q : Int), .slice A nC c], .func (.func 216) #[] #[.pointer (some ⟨bi, 0, none⟩), .pointer (some ⟨w.heap.size + 1 + 1, 0, none⟩)]] W (BoolPost W (P i))) := fun i bi W hW hbi hB => by
    have hW' := hbw3.trans (hW.mono hbw3.size)
    rw [hP]
    exact jhas_any M q nC A c C _ _ _ W hn ((hr.below hW').more hW'.size) hv (fit_sup i p bi (w.heap.size + 1 + 1) g W.heap.size lb W ⟨hB.lt, hB⟩ ⟨by have := hW.size; omega, hBf.below hW (by omega)⟩ (hf.later hW' hW'.size) (Nat.le_refl _)) hsm
  have hq0 : (q : Int) ≤ 10 := by omega
  have hs10 : (s : Int) ≤ 10 := by
    rw [hs]
    have := popF_le (xOf v.support) 10
    omega
  have HRes := Lib.hid hres
  have HBc := Lib.hid hBc
  have HB3 := Lib.hid hbw3
  have HS3 := Lib.hid hs3
  have c0 : W3.cell? ⟨w.heap.size, 0, none⟩ = some (.int .i64 M) := hBc.cell 0
  have c1 : W3.cell? ⟨w.heap.size, 1, none⟩ = some (.int .i64 (q : Int)) := hBc.cell 1
  have c5 : W3.cell? ⟨w.heap.size + 1, 5, none⟩ = some (I v.support) := hBv.cell 5
  clear hk1 hs hL hP hres hn hr hv hf hBv hBf hBc hbw3 hs3
  go_enter Tryz.func197, Tryz.ntmps197
  go_upto_region 1 with fail
  simp only [← hW3]
  have HCs : Hid (∀ W, Below W3.heap.size W3 W → W.cell? ⟨w.heap.size, 0, none⟩ = some (.int .i64 M) ∧ W.cell? ⟨w.heap.size, 1, none⟩ = some (.int .i64 (q : Int)) ∧ W.cell? ⟨w.heap.size + 1, 5, none⟩ = some (I v.support)) := fun W hW => ⟨(hW.cell (p := ⟨w.heap.size, 0, none⟩) (by have := HS3.out; show w.heap.size < _; omega)).trans c0, (hW.cell (p := ⟨w.heap.size, 1, none⟩) (by have := HS3.out; show w.heap.size < _; omega)).trans c1, (hW.cell (p := ⟨w.heap.size + 1, 5, none⟩) (by have := HS3.out; show w.heap.size + 1 < _; omega)).trans c5⟩
  clear c0 c1 c5 hW3
  have hr0 : Below W3.heap.size W3 W3 := Below.refl _ _
  cases k1 with
  | false =>
    have e2 : (bits .andNot .i64 v.support M != 0) = true := by rw [bne, e1]; rfl
    refine wp_region_noPanic ?_
    refine wp_region_held_drew (S := fun W => W.cell? ⟨w.heap.size, 0, none⟩ = some (.int .i64 M) ∧ W.cell? ⟨w.heap.size, 1, none⟩ = some (.int .i64 (q : Int)) ∧ W.cell? ⟨w.heap.size + 1, 5, none⟩ = some (I v.support)) (by kernel_rfl) (HCs.out _ hr0.drew) (fun hHeld => ?_)
    refine wpAnyH_takeD (some 9) (i := 0) (v := ?vh1_0) rfl rfl (by kernel_rfl) (by kernel_rfl) (by kernel_rfl) (fun _ _ _ h => h) (by rfl) ?hh1_0 (by assumption) ?_
    case hh1_0 => (intro wq hSw; (try dsimp only at hSw); go_simp; (try (with_reducible rfl)))
    go_frame
    refine wpAnyH_takeD (some 10) (i := 1) (v := ?vh1_1) rfl rfl (by kernel_rfl) (by kernel_rfl) (by kernel_rfl) (fun _ _ _ h => h) (by rfl) ?hh1_1 (by assumption) ?_
    case hh1_1 => (intro wq hSw; (try dsimp only at hSw); go_simp; (try (with_reducible rfl)))
    go_frame
    refine wpAnyH_takeD (some 11) (i := 2) (v := ?vh1_2) rfl rfl (by kernel_rfl) (by kernel_rfl) (by kernel_rfl) (fun _ _ _ h => h) (by rfl) ?hh1_2 (by assumption) ?_
    case hh1_2 => (intro wq hSw; (try dsimp only at hSw); go_simp; (try (with_reducible rfl)))
    go_frame
    refine wpAnyH_takeD (some 12) (i := 3) (v := ?vh1_3) rfl rfl (by kernel_rfl) (by kernel_rfl) (by kernel_rfl) (fun _ _ _ h => h) (by rfl) ?hh1_3 (by assumption) ?_
    case hh1_3 => (intro wq hSw; (try dsimp only at hSw); go_simp; (try (with_reducible rfl)))
    go_frame
    refine wpAnyH_takeD (some 13) (i := 4) (v := ?vh1_4) rfl rfl (by kernel_rfl) (by kernel_rfl) (by kernel_rfl) (fun _ _ _ h => h) (by rfl) ?hh1_4 (by assumption) ?_
    case hh1_4 => (intro wq hSw; (try dsimp only at hSw); go_simp; (try (with_reducible rfl)))
    go_frame
    refine wpAnyH_takeD (some 14) (i := 5) (v := ?vh1_5) rfl rfl (by kernel_rfl) (by kernel_rfl) (by kernel_rfl) (fun _ _ _ h => h) (by rfl) ?hh1_5 (by assumption) ?_
    case hh1_5 => (intro wq hSw; (try dsimp only at hSw); go_simp; (try (with_reducible rfl)))
    go_frame
    refine wpAnyH_takeD (some 15) (i := 6) (v := ?vh1_6) rfl rfl (by kernel_rfl) (by kernel_rfl) (by kernel_rfl) (fun _ _ _ h => h) (by rfl) ?hh1_6 (by assumption) ?_
    case hh1_6 => (intro wq hSw; (try dsimp only at hSw); go_simp; (try (with_reducible rfl)))
    go_frame
    refine wpAnyH_skipD (some 16) (i := 7) rfl rfl (by kernel_rfl) (by kernel_rfl) (by kernel_rfl) (fun _ _ _ h => h) (by rfl) (by assumption) ?_
    go_frame
    refine wpAnyH_skipD (some 17) (i := 8) rfl rfl (by kernel_rfl) (by kernel_rfl) (by kernel_rfl) (fun _ _ _ h => h) (by rfl) (by assumption) ?_
    go_frame
    refine wpAnyH_skipD (some 18) (i := 9) rfl rfl (by kernel_rfl) (by kernel_rfl) (by kernel_rfl) (fun _ _ _ h => h) (by rfl) (by assumption) ?_
    go_frame
    refine wpAnyH_skipD (some 19) (i := 10) rfl rfl (by kernel_rfl) (by kernel_rfl) (by kernel_rfl) (fun _ _ _ h => h) (by rfl) (by assumption) ?_
    go_frame
    refine wpAnyH_skipD (some 20) (i := 11) rfl rfl (by kernel_rfl) (by kernel_rfl) (by kernel_rfl) (fun _ _ _ h => h) (by rfl) (by assumption) ?_
    go_frame
    refine wpAnyH_skipD (some 21) (i := 12) rfl rfl (by kernel_rfl) (by kernel_rfl) (by kernel_rfl) (fun _ _ _ h => h) (by rfl) (by assumption) ?_
    go_frame
    refine wpAnyH_takeD (some 22) (i := 13) (v := ?vh1_13) rfl rfl (by kernel_rfl) (by kernel_rfl) (by kernel_rfl) (fun _ _ _ h => h) (by rfl) ?hh1_13 (by assumption) ?_
    case hh1_13 => (intro wq hSw; (try dsimp only at hSw); go_simp; (try (with_reducible rfl)))
    go_frame
    refine wpAnyH_done (by kernel_rfl) ?_ _
    refine NoPanic.normal ?_
    go_wp2
    go_ret
    exact ⟨by rw [HRes.out]; rfl, HB3.out.drew⟩
  | true =>
    have e2 : (bits .andNot .i64 v.support M != 0) = false := by rw [bne, e1]; rfl
    by_cases hsq : s = q
    · have dq : (((s : Nat) : Int) == ((q : Nat) : Int)) = true := by subst hsq; simp
      have dn : (((s : Nat) : Int) != ((q : Nat) : Int)) = false := by rw [bne, dq]; rfl
      refine wp_region_noPanic ?_
      refine wp_region_held_drew (S := fun W => W.cell? ⟨w.heap.size, 0, none⟩ = some (.int .i64 M) ∧ W.cell? ⟨w.heap.size, 1, none⟩ = some (.int .i64 (q : Int)) ∧ W.cell? ⟨w.heap.size + 1, 5, none⟩ = some (I v.support)) (by kernel_rfl) (HCs.out _ hr0.drew) (fun hHeld => ?_)
      refine wpAnyH_takeD (some 9) (i := 0) (v := ?vh2_0) rfl rfl (by kernel_rfl) (by kernel_rfl) (by kernel_rfl) (fun _ _ _ h => h) (by rfl) ?hh2_0 (by assumption) ?_
      case hh2_0 => (intro wq hSw; (try dsimp only at hSw); go_simp; (try (with_reducible rfl)))
      go_frame
      refine wpAnyH_takeD (some 10) (i := 1) (v := ?vh2_1) rfl rfl (by kernel_rfl) (by kernel_rfl) (by kernel_rfl) (fun _ _ _ h => h) (by rfl) ?hh2_1 (by assumption) ?_
      case hh2_1 => (intro wq hSw; (try dsimp only at hSw); go_simp; (try (with_reducible rfl)))
      go_frame
      refine wpAnyH_takeD (some 11) (i := 2) (v := ?vh2_2) rfl rfl (by kernel_rfl) (by kernel_rfl) (by kernel_rfl) (fun _ _ _ h => h) (by rfl) ?hh2_2 (by assumption) ?_
      case hh2_2 => (intro wq hSw; (try dsimp only at hSw); go_simp; (try (with_reducible rfl)))
      go_frame
      refine wpAnyH_takeD (some 12) (i := 3) (v := ?vh2_3) rfl rfl (by kernel_rfl) (by kernel_rfl) (by kernel_rfl) (fun _ _ _ h => h) (by rfl) ?hh2_3 (by assumption) ?_
      case hh2_3 => (intro wq hSw; (try dsimp only at hSw); go_simp; (try (with_reducible rfl)))
      go_frame
      refine wpAnyH_takeD (some 13) (i := 4) (v := ?vh2_4) rfl rfl (by kernel_rfl) (by kernel_rfl) (by kernel_rfl) (fun _ _ _ h => h) (by rfl) ?hh2_4 (by assumption) ?_
      case hh2_4 => (intro wq hSw; (try dsimp only at hSw); go_simp; (try (with_reducible rfl)))
      go_frame
      refine wpAnyH_takeD (some 14) (i := 5) (v := ?vh2_5) rfl rfl (by kernel_rfl) (by kernel_rfl) (by kernel_rfl) (fun _ _ _ h => h) (by rfl) ?hh2_5 (by assumption) ?_
      case hh2_5 => (intro wq hSw; (try dsimp only at hSw); go_simp; (try (with_reducible rfl)))
      go_frame
      refine wpAnyH_takeD (some 15) (i := 6) (v := ?vh2_6) rfl rfl (by kernel_rfl) (by kernel_rfl) (by kernel_rfl) (fun _ _ _ h => h) (by rfl) ?hh2_6 (by assumption) ?_
      case hh2_6 => (intro wq hSw; (try dsimp only at hSw); go_simp; (try (with_reducible rfl)))
      go_frame
      refine wpAnyH_takeD (some 16) (i := 7) (v := ?vh2_7) rfl rfl (by kernel_rfl) (by kernel_rfl) (by kernel_rfl) (fun _ _ _ h => h) (by rfl) ?hh2_7 (by assumption) ?_
      case hh2_7 => (intro wq hSw; (try dsimp only at hSw); go_simp; (try (with_reducible rfl)))
      go_frame
      refine wpAnyH_takeD (some 17) (i := 8) (v := ?vh2_8) rfl rfl (by kernel_rfl) (by kernel_rfl) (by kernel_rfl) (fun _ _ _ h => h) (by rfl) ?hh2_8 (by assumption) ?_
      case hh2_8 => (intro wq hSw; (try dsimp only at hSw); go_simp; (try (with_reducible rfl)))
      go_frame
      refine wpAnyH_takeD (some 19) (i := 10) (v := ?vh2_10) rfl rfl (by kernel_rfl) (by kernel_rfl) (by kernel_rfl) (fun _ _ _ h => h) (by rfl) ?hh2_10 (by assumption) ?_
      case hh2_10 => (intro wq hSw; (try dsimp only at hSw); go_simp; (try (with_reducible rfl)))
      go_frame
      refine wpAnyH_takeD (some 20) (i := 11) (v := ?vh2_11) rfl rfl (by kernel_rfl) (by kernel_rfl) (by kernel_rfl) (fun _ _ _ h => h) (by rfl) ?hh2_11 (by assumption) ?_
      case hh2_11 => (intro wq hSw; (try dsimp only at hSw); go_simp; (try (with_reducible rfl)))
      go_frame
      refine wpAnyH_ready (rs := [9]) (by kernel_rfl) (by simp) ?_
      refine AllReadyH.cons rfl (fun K hK => ?_) AllReadyH.nil
      go_simp
      refine (HSz.out _).mono ?_; rintro en w4 ⟨rfl, hw4⟩; replace hw4 := hw4.symm; subst hw4
      go_wp2_with fail
      refine hK.out _ _ (HCs.out _ hr0.drew) (fun hHeld => ?_)
      clear hK K
      try go_frame
      refine wpAnyH_takeD (some 21) (i := 12) (v := ?vh2_12) rfl rfl (by kernel_rfl) (by kernel_rfl) (by kernel_rfl) (fun _ _ _ h => h) (by rfl) ?hh2_12 (by assumption) ?_
      case hh2_12 => (intro wq hSw; (try dsimp only at hSw); go_simp; (try (with_reducible rfl)))
      go_frame
      refine wpAnyH_takeD (some 22) (i := 13) (v := ?vh2_13) rfl rfl (by kernel_rfl) (by kernel_rfl) (by kernel_rfl) (fun _ _ _ h => h) (by rfl) ?hh2_13 (by assumption) ?_
      case hh2_13 => (intro wq hSw; (try dsimp only at hSw); go_simp; (try (with_reducible rfl)))
      go_frame
      refine wpAnyH_done (by kernel_rfl) ?_ _
      refine NoPanic.normal ?_
      go_wp2_with (go_at_call 215; refine (HId.out _).mono ?_; rintro en w5 ⟨u5, rfl, hown5, hb5⟩; obtain ⟨A5, c5, hv5⟩ := own_form hown5; subst hv5)
      have HB5 := Lib.hid hb5
      have HRow5 := Lib.hid (Rd.of_own hown5)
      have HW35 := Lib.hid hr0
      obtain ⟨nL, hnL⟩ : ∃ n, n = L.length := ⟨_, rfl⟩
      have hn10 : nL ≤ 10 := by rw [hnL]; exact HL10.out
      have HNL := Lib.hid hnL
      rw [← hnL]
      clear hnL hown5 hr0
      have hb35 : Below W3.heap.size W3 w5 := (Below.refl W3.heap.size W3).drew.trans (hb5.mono (Nat.le_refl _))
      clear hb5
      go_loopw [27] (fun iv wr => ∃ j : Nat, iv = .int .i64 (j : Int) ∧ j ≤ nL ∧ (L.take j).all P = true ∧ Below w5.heap.size w5 wr) (fun iv _ => nL - (intOf iv).toNat)
      case atStart => exact ⟨0, rfl, by omega, by simp, Below.refl _ _⟩
      case round =>
        obtain ⟨j, rfl, hjn, hall, hbr⟩ := hrel
        have HAll := Lib.hid hall
        clear hall
        have hb3r : Below W3.heap.size W3 wr := hb35.trans (hbr.mono hb35.size)
        by_cases hj : j < nL
        · have dj : decide ((j : Int) < (nL : Int)) = true := by simp; omega
          have jk : (j : Int) < (nL : Int) := by omega
          obtain ⟨i, hi⟩ : ∃ i, L[j]? = some i := ⟨_, List.getElem?_eq_getElem (by rw [← HNL.out]; exact hj)⟩
          have HStep : Hid ((L.take (j + 1)).all P = ((L.take j).all P && P i)) := by
            unfold Hid
            rw [List.take_add_one, hi, List.all_append]
            simp
          have HFall : Hid (P i = false → L.all P = false) := fun h => by
            rw [← Bool.not_eq_true, List.all_eq_true]
            intro hh
            rw [hh i (List.mem_of_getElem? hi)] at h
            cases h
          have hmap : (L.map fun i : Nat => Value.int .i64 (i : Int))[j]? = some (.int .i64 (i : Int)) := by rw [List.getElem?_map, hi]; rfl
          obtain ⟨b, o, rfl, hb, hcell⟩ := (HRow5.out.below hbr).cells (by intro e; rw [List.map_eq_nil_iff] at e; rw [e] at hi; simp at hi)
          have x1 : wr.cell? ⟨b, o + j, none⟩ = some (.int .i64 (i : Int)) := hcell j _ hmap
          clear hcell hmap hi
          go_upto_region 6 with fail
          have hbwa : Below W3.heap.size W3 (wr.alloc (.cells #[.int .i64 (i : Int)] 3)) := hb3r.alloc hb3r.size _
          have hlt3 : w.heap.size < W3.heap.size := by have := HS3.out; omega
          have y0 := (HBc.out.below hbwa hlt3).cell 0
          have y1 := (HBc.out.below hbwa hlt3).cell 1
          have y2 := (HBc.out.below hbwa hlt3).cell 2
          simp at y0 y1 y2
          have HCall := Lib.hid (HHas.out i wr.heap.size _ hbwa hb3r.size (Blk.new wr _ _))
          obtain ⟨pi, hpi⟩ : ∃ k, k = P i := ⟨_, rfl⟩
          rw [← hpi] at HCall HStep HFall
          clear x1 hpi hlt3
          try go_frame
          cases pi with
          | true =>
            go_wp2_with (go_at_call 173; refine HCall.out.mono ?_; rintro en w6 ⟨rfl, hb6⟩)
            go_roundw
            case rel => exact ⟨j + 1, by go_num, by omega, by rw [HStep.out, HAll.out]; rfl, (hbr.alloc hbr.size _).trans (hb6.mono (hbr.alloc hbr.size _).size)⟩
            case measure => simp [intOf]; omega
          | false =>
            go_wp2_with (go_at_call 173; refine HCall.out.mono ?_; rintro en w6 ⟨rfl, hb6⟩)
            go_ret
            exact ⟨by rw [HRes.out, HFall.out (by simp), Bool.and_false, Bool.and_false]; rfl, HB3.out.trans ((hbwa.trans (hb6.mono hbwa.size)).mono HB3.out.size)⟩
        · have dj : decide ((j : Int) < (nL : Int)) = false := by simp; omega
          go_wp2
          go_ret
          refine ⟨?_, HB3.out.trans (hb3r.mono HB3.out.size)⟩
          have hjn' : j = nL := by omega
          have h := HAll.out
          rw [hjn', HNL.out, List.take_length] at h
          rw [HRes.out, h, decide_eq_true hsq]
          rfl
    · have dq : (((s : Nat) : Int) == ((q : Nat) : Int)) = false := by simp; omega
      have dn : (((s : Nat) : Int) != ((q : Nat) : Int)) = true := by rw [bne, dq]; rfl
      refine wp_region_noPanic ?_
      refine wp_region_held_drew (S := fun W => W.cell? ⟨w.heap.size, 0, none⟩ = some (.int .i64 M) ∧ W.cell? ⟨w.heap.size, 1, none⟩ = some (.int .i64 (q : Int)) ∧ W.cell? ⟨w.heap.size + 1, 5, none⟩ = some (I v.support)) (by kernel_rfl) (HCs.out _ hr0.drew) (fun hHeld => ?_)
      refine wpAnyH_takeD (some 9) (i := 0) (v := ?vh3_0) rfl rfl (by kernel_rfl) (by kernel_rfl) (by kernel_rfl) (fun _ _ _ h => h) (by rfl) ?hh3_0 (by assumption) ?_
      case hh3_0 => (intro wq hSw; (try dsimp only at hSw); go_simp; (try (with_reducible rfl)))
      go_frame
      refine wpAnyH_takeD (some 10) (i := 1) (v := ?vh3_1) rfl rfl (by kernel_rfl) (by kernel_rfl) (by kernel_rfl) (fun _ _ _ h => h) (by rfl) ?hh3_1 (by assumption) ?_
      case hh3_1 => (intro wq hSw; (try dsimp only at hSw); go_simp; (try (with_reducible rfl)))
      go_frame
      refine wpAnyH_takeD (some 11) (i := 2) (v := ?vh3_2) rfl rfl (by kernel_rfl) (by kernel_rfl) (by kernel_rfl) (fun _ _ _ h => h) (by rfl) ?hh3_2 (by assumption) ?_
      case hh3_2 => (intro wq hSw; (try dsimp only at hSw); go_simp; (try (with_reducible rfl)))
      go_frame
      refine wpAnyH_takeD (some 12) (i := 3) (v := ?vh3_3) rfl rfl (by kernel_rfl) (by kernel_rfl) (by kernel_rfl) (fun _ _ _ h => h) (by rfl) ?hh3_3 (by assumption) ?_
      case hh3_3 => (intro wq hSw; (try dsimp only at hSw); go_simp; (try (with_reducible rfl)))
      go_frame
      refine wpAnyH_takeD (some 13) (i := 4) (v := ?vh3_4) rfl rfl (by kernel_rfl) (by kernel_rfl) (by kernel_rfl) (fun _ _ _ h => h) (by rfl) ?hh3_4 (by assumption) ?_
      case hh3_4 => (intro wq hSw; (try dsimp only at hSw); go_simp; (try (with_reducible rfl)))
      go_frame
      refine wpAnyH_takeD (some 14) (i := 5) (v := ?vh3_5) rfl rfl (by kernel_rfl) (by kernel_rfl) (by kernel_rfl) (fun _ _ _ h => h) (by rfl) ?hh3_5 (by assumption) ?_
      case hh3_5 => (intro wq hSw; (try dsimp only at hSw); go_simp; (try (with_reducible rfl)))
      go_frame
      refine wpAnyH_takeD (some 15) (i := 6) (v := ?vh3_6) rfl rfl (by kernel_rfl) (by kernel_rfl) (by kernel_rfl) (fun _ _ _ h => h) (by rfl) ?hh3_6 (by assumption) ?_
      case hh3_6 => (intro wq hSw; (try dsimp only at hSw); go_simp; (try (with_reducible rfl)))
      go_frame
      refine wpAnyH_takeD (some 16) (i := 7) (v := ?vh3_7) rfl rfl (by kernel_rfl) (by kernel_rfl) (by kernel_rfl) (fun _ _ _ h => h) (by rfl) ?hh3_7 (by assumption) ?_
      case hh3_7 => (intro wq hSw; (try dsimp only at hSw); go_simp; (try (with_reducible rfl)))
      go_frame
      refine wpAnyH_takeD (some 17) (i := 8) (v := ?vh3_8) rfl rfl (by kernel_rfl) (by kernel_rfl) (by kernel_rfl) (fun _ _ _ h => h) (by rfl) ?hh3_8 (by assumption) ?_
      case hh3_8 => (intro wq hSw; (try dsimp only at hSw); go_simp; (try (with_reducible rfl)))
      go_frame
      refine wpAnyH_takeD (some 19) (i := 10) (v := ?vh3_10) rfl rfl (by kernel_rfl) (by kernel_rfl) (by kernel_rfl) (fun _ _ _ h => h) (by rfl) ?hh3_10 (by assumption) ?_
      case hh3_10 => (intro wq hSw; (try dsimp only at hSw); go_simp; (try (with_reducible rfl)))
      go_frame
      refine wpAnyH_takeD (some 20) (i := 11) (v := ?vh3_11) rfl rfl (by kernel_rfl) (by kernel_rfl) (by kernel_rfl) (fun _ _ _ h => h) (by rfl) ?hh3_11 (by assumption) ?_
      case hh3_11 => (intro wq hSw; (try dsimp only at hSw); go_simp; (try (with_reducible rfl)))
      go_frame
      refine wpAnyH_ready (rs := [9]) (by kernel_rfl) (by simp) ?_
      refine AllReadyH.cons rfl (fun K hK => ?_) AllReadyH.nil
      go_simp
      refine (HSz.out _).mono ?_; rintro en w4 ⟨rfl, hw4⟩; replace hw4 := hw4.symm; subst hw4
      go_wp2_with fail
      refine hK.out _ _ (HCs.out _ hr0.drew) (fun hHeld => ?_)
      clear hK K
      try go_frame
      refine wpAnyH_takeD (some 21) (i := 12) (v := ?vh3_12) rfl rfl (by kernel_rfl) (by kernel_rfl) (by kernel_rfl) (fun _ _ _ h => h) (by rfl) ?hh3_12 (by assumption) ?_
      case hh3_12 => (intro wq hSw; (try dsimp only at hSw); go_simp; (try (with_reducible rfl)))
      go_frame
      refine wpAnyH_takeD (some 22) (i := 13) (v := ?vh3_13) rfl rfl (by kernel_rfl) (by kernel_rfl) (by kernel_rfl) (fun _ _ _ h => h) (by rfl) ?hh3_13 (by assumption) ?_
      case hh3_13 => (intro wq hSw; (try dsimp only at hSw); go_simp; (try (with_reducible rfl)))
      go_frame
      refine wpAnyH_done (by kernel_rfl) ?_ _
      refine NoPanic.normal ?_
      go_wp2
      go_ret
      exact ⟨by rw [HRes.out, decide_eq_false hsq]; rfl, HB3.out.drew⟩
end Go.Proofs.YthmecidpjlaonaaGreat
namespace Go.Proofs.YthmecidpjlaonaaGreat
open Go.RowKit Go.Shelf
attribute [local go_sem ↓] Go.wp_at_zero Go.wp_at_succ loadNm loadVt loadSg loadEv
attribute [local go_sem] runNm runVt runSg runEv pickRow_some rowAt_drew rowAt_drewN
set_option maxRecDepth 100000 in
set_option maxHeartbeats 4000000 in
theorem jprev1_any (M : Int) (q nC : Nat) (A : Option Addr) (c : Nat) (C : List Vt) (v : Vt) (w : World) (hn : C.length = nC) (hr : Rd w w.heap.size A (C.flatMap vtc)) (hv : ∀ v ∈ C, ValidP v) (hsm : nC ≤ 1000000) (hq : q ≤ 10) (h1 : v.round = 1) :
    Calls Tryz.prog 176 #[.agg #[.int .i64 M, .int .i64 (q : Int), .slice A nC c], v.val] w (BoolPost w (prevB M q v C)) := by
  obtain ⟨W2, hW2⟩ : ∃ W2, W2 = (w.alloc (.cells #[.int .i64 M, .int .i64 (q : Int), .slice A nC c] 190)).alloc (.cells v.cells 31) := ⟨_, rfl⟩
  have hbw2 : Below w.heap.size w W2 := by rw [hW2]; exact ((Below.refl _ _).alloc (Nat.le_refl _) _).alloc (by simp) _
  have hs2 : W2.heap.size = w.heap.size + 1 + 1 := by rw [hW2]; simp
  have hBc : Blk W2 w.heap.size 190 #[.int .i64 M, .int .i64 (q : Int), .slice A nC c] := by rw [hW2]; exact (Blk.new w _ _).alloc _
  have hBv : Blk W2 (w.heap.size + 1) 31 v.cells := by
    have h := Blk.new (w.alloc (.cells #[.int .i64 M, .int .i64 (q : Int), .slice A nC c] 190)) 31 v.cells
    rw [World.size_alloc] at h
    rw [hW2]; exact h
  have HS : Hid (∀ W, Below W2.heap.size W2 W → Calls Tryz.prog 197 #[.agg #[.int .i64 M, .int .i64 (q : Int), .slice A nC c], v.val, .func (.func 198) #[] #[(.pointer (some ⟨w.heap.size + 1, 0, none⟩))]] W (BoolPost W (supB M q v C (pEcho v)))) := fun W hW => by
    have hW' := hbw2.trans (hW.mono hbw2.size)
    have BV : BoxV W.heap.size W (w.heap.size + 1) v := ⟨by have := hW.size; omega, hBv.below hW (by omega)⟩
    exact jsup_any M q nC A c C v _ _ _ W hn ((hr.below hW').more hW'.size) hv (fit_echo v (w.heap.size + 1) W.heap.size W BV) hsm hq
  obtain ⟨k1, hk1⟩ : ∃ k, k = decide (v.choice = 0) := ⟨_, rfl⟩
  have e1 : (v.choice == 0) = k1 := by rw [hk1]; rfl
  obtain ⟨k2, hk2⟩ : ∃ k, k = supB M q v C (pEcho v) := ⟨_, rfl⟩
  have hres : prevB M q v C = (k1 || k2) := by unfold prevB; rw [if_pos h1, hk1, hk2]
  rw [← hk2] at HS
  have e0 : (v.round == 1) = true := by rw [h1]; rfl
  have HRes := Lib.hid hres
  have HB2 := Lib.hid hbw2
  have HFacts : Hid (∀ W, Below W2.heap.size W2 W → rowAt W (w.heap.size + 1) 0 22 = some v.cells ∧ W.cell? ⟨w.heap.size + 1, 3, none⟩ = some (I v.choice) ∧ W.cell? ⟨w.heap.size, 0, none⟩ = some (.int .i64 M) ∧ W.cell? ⟨w.heap.size, 1, none⟩ = some (.int .i64 (q : Int)) ∧ W.cell? ⟨w.heap.size, 2, none⟩ = some (.slice A nC c)) := fun W hW =>
    ⟨(hBv.below hW (by omega)).row 22 rfl, (hBv.below hW (by omega)).cell 3, (hBc.below hW (by omega)).cell 0, (hBc.below hW (by omega)).cell 1, (hBc.below hW (by omega)).cell 2⟩
  clear hk1 hk2 hres hn hr hv hsm hq hBc hBv hbw2 hs2 h1
  have HW := Lib.hid hW2
  clear hW2
  go_enter Tryz.func176, Tryz.ntmps176
  cases k1
  · go_upto_region 2 with fail
    simp only [← HW.out]
    obtain ⟨x1, y3, y0, y1, y2⟩ := HFacts.out _ (Below.refl _ _)
    go_wp2_with (go_at_call 197; refine (HS.out _ (Below.refl _ _)).mono ?_; rintro en w3 ⟨rfl, hb3⟩)
    go_ret
    exact ⟨by rw [HRes.out]; rfl, HB2.out.trans (hb3.mono HB2.out.size)⟩
  · go_upto_region 2 with fail
    simp only [← HW.out]
    obtain ⟨x1, y3, y0, y1, y2⟩ := HFacts.out _ (Below.refl _ _)
    go_wp2
    go_ret
    exact ⟨by rw [HRes.out]; rfl, HB2.out⟩
set_option maxRecDepth 100000 in
set_option maxHeartbeats 4000000 in
theorem jprev2_any (M : Int) (q nC : Nat) (A : Option Addr) (c : Nat) (C : List Vt) (v : Vt) (w : World) (hn : C.length = nC) (hr : Rd w w.heap.size A (C.flatMap vtc)) (hv : ∀ v ∈ C, ValidP v) (hsm : nC ≤ 1000000) (hq : q ≤ 10) (h1 : v.round ≠ 1) (hrd : 1 ≤ v.round ∧ v.round ≤ 12) :
    Calls Tryz.prog 176 #[.agg #[.int .i64 M, .int .i64 (q : Int), .slice A nC c], v.val] w (BoolPost w (prevB M q v C)) := by
  obtain ⟨W0, hW0⟩ : ∃ W0, W0 = (w.alloc (.cells #[.int .i64 M, .int .i64 (q : Int), .slice A nC c] 190)).alloc (.cells v.cells 31) := ⟨_, rfl⟩
  have hbw0 : Below w.heap.size w W0 := by rw [hW0]; exact ((Below.refl _ _).alloc (Nat.le_refl _) _).alloc (by simp) _
  have hs0 : W0.heap.size = w.heap.size + 1 + 1 := by rw [hW0]; simp
  have hBc0 : Blk W0 w.heap.size 190 #[.int .i64 M, .int .i64 (q : Int), .slice A nC c] := by rw [hW0]; exact (Blk.new w _ _).alloc _
  have hBv0 : Blk W0 (w.heap.size + 1) 31 v.cells := by
    have h := Blk.new (w.alloc (.cells #[.int .i64 M, .int .i64 (q : Int), .slice A nC c] 190)) 31 v.cells
    rw [World.size_alloc] at h
    rw [hW0]; exact h
  have y9 : W0.cell? ⟨w.heap.size + 1, 2, none⟩ = some (I v.round) := hBv0.cell 2
  obtain ⟨pf, hpf⟩ : ∃ p, p = W0.heap.size := ⟨_, rfl⟩
  obtain ⟨W1, hW1⟩ : ∃ W1, W1 = W0.alloc (.cells #[.func (.func 199) #[] #[(.pointer (some ⟨w.heap.size + 1, 0, none⟩))]] 88) := ⟨_, rfl⟩
  have hs1 : W1.heap.size = pf + 1 := by rw [hW1, hpf]; simp
  obtain ⟨pg, hpg⟩ : ∃ p, p = W1.heap.size := ⟨_, rfl⟩
  obtain ⟨W2, hW2⟩ : ∃ W2, W2 = W1.alloc (.cells #[.func (.func 200) #[] #[(.pointer (some ⟨w.heap.size + 1, 0, none⟩))]] 88) := ⟨_, rfl⟩
  have hs2 : W2.heap.size = pg + 1 := by rw [hW2, hpg]; simp
  have hb01 : Below W0.heap.size W0 W1 := by rw [hW1]; exact (Below.refl _ _).alloc (Nat.le_refl _) _
  have hb12 : Below W1.heap.size W1 W2 := by rw [hW2]; exact (Below.refl _ _).alloc (Nat.le_refl _) _
  have hbw1 : Below w.heap.size w W1 := hbw0.trans (hb01.mono hbw0.size)
  have hbw2 : Below w.heap.size w W2 := hbw1.trans (hb12.mono hbw1.size)
  have hBc : Blk W2 w.heap.size 190 #[.int .i64 M, .int .i64 (q : Int), .slice A nC c] := (hBc0.below hb01 (by omega)).below hb12 (by omega)
  have hBv : Blk W2 (w.heap.size + 1) 31 v.cells := (hBv0.below hb01 (by omega)).below hb12 (by omega)
  have hBf : Blk W2 pf 88 #[.func (.func 199) #[] #[(.pointer (some ⟨w.heap.size + 1, 0, none⟩))]] := by
    have h := Blk.new W0 88 #[.func (.func 199) #[] #[(.pointer (some ⟨w.heap.size + 1, 0, none⟩))]]
    rw [← hW1, ← hpf] at h
    exact h.below hb12 (by omega)
  have hBg : Blk W2 pg 88 #[.func (.func 200) #[] #[(.pointer (some ⟨w.heap.size + 1, 0, none⟩))]] := by
    have h := Blk.new W1 88 #[.func (.func 200) #[] #[(.pointer (some ⟨w.heap.size + 1, 0, none⟩))]]
    rwa [← hW2, ← hpg] at h
  have hFV : ∀ W, Below W2.heap.size W2 W → FitOn W.heap.size W 199 #[(.pointer (some ⟨w.heap.size + 1, 0, none⟩))] (pVal v) := fun W hW => fit_val v hrd (w.heap.size + 1) W.heap.size W ⟨by have := hW.size; omega, hBv.below hW (by omega)⟩
  have hFM : ∀ W, Below W2.heap.size W2 W → FitOn W.heap.size W 200 #[(.pointer (some ⟨w.heap.size + 1, 0, none⟩))] (pMix v) := fun W hW => fit_mix v hrd (w.heap.size + 1) W.heap.size W ⟨by have := hW.size; omega, hBv.below hW (by omega)⟩
  have hBF : ∀ W, Below W2.heap.size W2 W → BoxF W.heap.size W pf 199 #[(.pointer (some ⟨w.heap.size + 1, 0, none⟩))] := fun W hW => ⟨by have := hW.size; omega, hBf.below hW (by omega)⟩
  have hBG : ∀ W, Below W2.heap.size W2 W → BoxF W.heap.size W pg 200 #[(.pointer (some ⟨w.heap.size + 1, 0, none⟩))] := fun W hW => ⟨by have := hW.size; omega, hBg.below hW (by omega)⟩
  have HS1 : Hid (∀ W, Below W2.heap.size W2 W → Calls Tryz.prog 197 #[.agg #[.int .i64 M, .int .i64 (q : Int), .slice A nC c], v.val, .func (.func 201) #[] #[(.pointer (some ⟨pf, 0, none⟩)), (.pointer (some ⟨pg, 0, none⟩))]] W (BoolPost W (supB M q v C (pEith v)))) := fun W hW => by
    have hW' := hbw2.trans (hW.mono hbw2.size)
    have _BV : BoxV W.heap.size W (w.heap.size + 1) v := ⟨by have := hW.size; omega, hBv.below hW (by omega)⟩
    exact jsup_any M q nC A c C v _ _ _ W hn ((hr.below hW').more hW'.size) hv (fit_eith (pVal v) (pMix v) pf pg _ _ W.heap.size _ _ W (hBF W hW) (hBG W hW) (hFV W hW) (hFM W hW) (Nat.le_refl _)) hsm hq
  have HS2 : Hid (∀ W, Below W2.heap.size W2 W → Calls Tryz.prog 197 #[.agg #[.int .i64 M, .int .i64 (q : Int), .slice A nC c], v.val, .func (.func 200) #[] #[(.pointer (some ⟨w.heap.size + 1, 0, none⟩))]] W (BoolPost W (supB M q v C (pMix v)))) := fun W hW => by
    have hW' := hbw2.trans (hW.mono hbw2.size)
    have _BV : BoxV W.heap.size W (w.heap.size + 1) v := ⟨by have := hW.size; omega, hBv.below hW (by omega)⟩
    exact jsup_any M q nC A c C v _ _ _ W hn ((hr.below hW').more hW'.size) hv (hFM W hW) hsm hq
  have HH1 : Hid (∀ W, Below W2.heap.size W2 W → Calls Tryz.prog 173 #[.agg #[.int .i64 M, .int .i64 (q : Int), .slice A nC c], .func (.func 202) #[] #[(.pointer (some ⟨w.heap.size + 1, 0, none⟩)), (.pointer (some ⟨pf, 0, none⟩))]] W (BoolPost W (C.any (pIn v)))) := fun W hW => by
    have hW' := hbw2.trans (hW.mono hbw2.size)
    exact jhas_any M q nC A c C _ _ _ W hn ((hr.below hW').more hW'.size) hv (fit_in v (pVal v) (w.heap.size + 1) pf _ W.heap.size _ W ⟨by have := hW.size; omega, hBv.below hW (by omega)⟩ (hBF W hW) (hFV W hW) (Nat.le_refl _)) hsm
  have HH2 : Hid (∀ W, Below W2.heap.size W2 W → Calls Tryz.prog 173 #[.agg #[.int .i64 M, .int .i64 (q : Int), .slice A nC c], .func (.func 203) #[] #[(.pointer (some ⟨w.heap.size + 1, 0, none⟩))]] W (BoolPost W (C.any (pPrev v)))) := fun W hW => by
    have hW' := hbw2.trans (hW.mono hbw2.size)
    exact jhas_any M q nC A c C _ _ _ W hn ((hr.below hW').more hW'.size) hv (fit_prev v hrd (w.heap.size + 1) W.heap.size W ⟨by have := hW.size; omega, hBv.below hW (by omega)⟩) hsm
  obtain ⟨k1, hk1⟩ : ∃ k, k = supB M q v C (pEith v) := ⟨_, rfl⟩
  obtain ⟨k2, hk2⟩ : ∃ k, k = C.any (pIn v) := ⟨_, rfl⟩
  obtain ⟨k3, hk3⟩ : ∃ k, k = supB M q v C (pMix v) := ⟨_, rfl⟩
  obtain ⟨k4, hk4⟩ : ∃ k, k = C.any (pPrev v) := ⟨_, rfl⟩
  have hres : prevB M q v C = ((k1 && k2) || (k3 && k4)) := by unfold prevB; rw [if_neg h1, hk1, hk2, hk3, hk4]
  rw [← hk1] at HS1
  rw [← hk2] at HH1
  rw [← hk3] at HS2
  rw [← hk4] at HH2
  have e0 : (v.round == 1) = false := by simp [h1]
  have HRes := Lib.hid hres
  have HB2 := Lib.hid hbw2
  have HFacts : Hid (∀ W, Below W2.heap.size W2 W → rowAt W (w.heap.size + 1) 0 22 = some v.cells ∧ W.cell? ⟨pg, 0, none⟩ = some (.func (.func 200) #[] #[(.pointer (some ⟨w.heap.size + 1, 0, none⟩))]) ∧ W.cell? ⟨w.heap.size, 0, none⟩ = some (.int .i64 M) ∧ W.cell? ⟨w.heap.size, 1, none⟩ = some (.int .i64 (q : Int)) ∧ W.cell? ⟨w.heap.size, 2, none⟩ = some (.slice A nC c)) := fun W hW =>
    ⟨(hBv.below hW (by omega)).row 22 rfl, (hBg.below hW (by omega)).cell 0, (hBc.below hW (by omega)).cell 0, (hBc.below hW (by omega)).cell 1, (hBc.below hW (by omega)).cell 2⟩
  have HW0 := Lib.hid hW0
  have HW1 := Lib.hid hW1
  have HW2 := Lib.hid hW2
  have HPf := Lib.hid hpf
  have HPg := Lib.hid hpg
  clear hk1 hk2 hk3 hk4 hres hn hr hv hsm hq hBc hBv hBf hBg hbw2 hs2 h1 hW2 hFV hFM hBF hBG hrd hW0 hW1 hpf hpg hs0 hs1 hbw0 hbw1 hb01 hb12 hBc0 hBv0
  go_enter Tryz.func176, Tryz.ntmps176
  go_upto_region 1 with fail
  simp only [← HW0.out]
  go_upto_region 4 with fail
  simp only [← HW1.out, ← HPf.out]
  go_upto_region 6 with fail
  simp only [← HW2.out, ← HPg.out]
  have hcur : Below W2.heap.size W2 W2 := Below.refl _ _
  obtain ⟨x1, y3, y0, y1, y2⟩ := HFacts.out _ hcur
  cases k1
  · clear HH1
    cases k3
    · go_wp2_with (first | (go_at_call 197; refine (HS1.out _ hcur).mono ?_; rintro en wa ⟨rfl, hba⟩; replace hcur := hcur.trans (hba.mono hcur.size); obtain ⟨x1, y3, y0, y1, y2⟩ := HFacts.out _ hcur; clear HS1) | (go_at_call 173; refine (HH1.out _ hcur).mono ?_; rintro en wa ⟨rfl, hba⟩; replace hcur := hcur.trans (hba.mono hcur.size); obtain ⟨x1, y3, y0, y1, y2⟩ := HFacts.out _ hcur; clear HH1) | (go_at_call 197; refine (HS2.out _ hcur).mono ?_; rintro en wa ⟨rfl, hba⟩; replace hcur := hcur.trans (hba.mono hcur.size); obtain ⟨x1, y3, y0, y1, y2⟩ := HFacts.out _ hcur; clear HS2) | (go_at_call 173; refine (HH2.out _ hcur).mono ?_; rintro en wa ⟨rfl, hba⟩; replace hcur := hcur.trans (hba.mono hcur.size); obtain ⟨x1, y3, y0, y1, y2⟩ := HFacts.out _ hcur; clear HH2))
      go_ret
      exact ⟨by rw [HRes.out]; rfl, HB2.out.trans (hcur.mono HB2.out.size)⟩
    · go_wp2_with (first | (go_at_call 197; refine (HS1.out _ hcur).mono ?_; rintro en wa ⟨rfl, hba⟩; replace hcur := hcur.trans (hba.mono hcur.size); obtain ⟨x1, y3, y0, y1, y2⟩ := HFacts.out _ hcur; clear HS1) | (go_at_call 173; refine (HH1.out _ hcur).mono ?_; rintro en wa ⟨rfl, hba⟩; replace hcur := hcur.trans (hba.mono hcur.size); obtain ⟨x1, y3, y0, y1, y2⟩ := HFacts.out _ hcur; clear HH1) | (go_at_call 197; refine (HS2.out _ hcur).mono ?_; rintro en wa ⟨rfl, hba⟩; replace hcur := hcur.trans (hba.mono hcur.size); obtain ⟨x1, y3, y0, y1, y2⟩ := HFacts.out _ hcur; clear HS2) | (go_at_call 173; refine (HH2.out _ hcur).mono ?_; rintro en wa ⟨rfl, hba⟩; replace hcur := hcur.trans (hba.mono hcur.size); obtain ⟨x1, y3, y0, y1, y2⟩ := HFacts.out _ hcur; clear HH2))
      go_ret
      exact ⟨by rw [HRes.out]; rfl, HB2.out.trans (hcur.mono HB2.out.size)⟩
  · skip
    cases k2
    · skip
      cases k3
      · go_wp2_with (first | (go_at_call 197; refine (HS1.out _ hcur).mono ?_; rintro en wa ⟨rfl, hba⟩; replace hcur := hcur.trans (hba.mono hcur.size); obtain ⟨x1, y3, y0, y1, y2⟩ := HFacts.out _ hcur; clear HS1) | (go_at_call 173; refine (HH1.out _ hcur).mono ?_; rintro en wa ⟨rfl, hba⟩; replace hcur := hcur.trans (hba.mono hcur.size); obtain ⟨x1, y3, y0, y1, y2⟩ := HFacts.out _ hcur; clear HH1) | (go_at_call 197; refine (HS2.out _ hcur).mono ?_; rintro en wa ⟨rfl, hba⟩; replace hcur := hcur.trans (hba.mono hcur.size); obtain ⟨x1, y3, y0, y1, y2⟩ := HFacts.out _ hcur; clear HS2) | (go_at_call 173; refine (HH2.out _ hcur).mono ?_; rintro en wa ⟨rfl, hba⟩; replace hcur := hcur.trans (hba.mono hcur.size); obtain ⟨x1, y3, y0, y1, y2⟩ := HFacts.out _ hcur; clear HH2))
        go_ret
        exact ⟨by rw [HRes.out]; rfl, HB2.out.trans (hcur.mono HB2.out.size)⟩
      · go_wp2_with (first | (go_at_call 197; refine (HS1.out _ hcur).mono ?_; rintro en wa ⟨rfl, hba⟩; replace hcur := hcur.trans (hba.mono hcur.size); obtain ⟨x1, y3, y0, y1, y2⟩ := HFacts.out _ hcur; clear HS1) | (go_at_call 173; refine (HH1.out _ hcur).mono ?_; rintro en wa ⟨rfl, hba⟩; replace hcur := hcur.trans (hba.mono hcur.size); obtain ⟨x1, y3, y0, y1, y2⟩ := HFacts.out _ hcur; clear HH1) | (go_at_call 197; refine (HS2.out _ hcur).mono ?_; rintro en wa ⟨rfl, hba⟩; replace hcur := hcur.trans (hba.mono hcur.size); obtain ⟨x1, y3, y0, y1, y2⟩ := HFacts.out _ hcur; clear HS2) | (go_at_call 173; refine (HH2.out _ hcur).mono ?_; rintro en wa ⟨rfl, hba⟩; replace hcur := hcur.trans (hba.mono hcur.size); obtain ⟨x1, y3, y0, y1, y2⟩ := HFacts.out _ hcur; clear HH2))
        go_ret
        exact ⟨by rw [HRes.out]; rfl, HB2.out.trans (hcur.mono HB2.out.size)⟩
    · go_wp2_with (first | (go_at_call 197; refine (HS1.out _ hcur).mono ?_; rintro en wa ⟨rfl, hba⟩; replace hcur := hcur.trans (hba.mono hcur.size); obtain ⟨x1, y3, y0, y1, y2⟩ := HFacts.out _ hcur; clear HS1) | (go_at_call 173; refine (HH1.out _ hcur).mono ?_; rintro en wa ⟨rfl, hba⟩; replace hcur := hcur.trans (hba.mono hcur.size); obtain ⟨x1, y3, y0, y1, y2⟩ := HFacts.out _ hcur; clear HH1) | (go_at_call 197; refine (HS2.out _ hcur).mono ?_; rintro en wa ⟨rfl, hba⟩; replace hcur := hcur.trans (hba.mono hcur.size); obtain ⟨x1, y3, y0, y1, y2⟩ := HFacts.out _ hcur; clear HS2) | (go_at_call 173; refine (HH2.out _ hcur).mono ?_; rintro en wa ⟨rfl, hba⟩; replace hcur := hcur.trans (hba.mono hcur.size); obtain ⟨x1, y3, y0, y1, y2⟩ := HFacts.out _ hcur; clear HH2))
      go_ret
      exact ⟨by rw [HRes.out]; rfl, HB2.out.trans (hcur.mono HB2.out.size)⟩
end Go.Proofs.YthmecidpjlaonaaGreat
