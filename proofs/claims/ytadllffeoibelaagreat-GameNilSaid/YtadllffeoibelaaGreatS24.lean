/-
  What these parts of the proof come to, functions walked and plain laws: Jus1. No condition.
-/
import Derived.Test.YtadllffeoibelaaGreatS12
import Derived.Test.YtadllffeoibelaaGreatS22
import Derived.Test.YtadllffeoibelaaGreatS6
import Derived.Deep.DeepCutAuto
namespace Go.Proofs.YtadllffeoibelaaGreat
section
open Go.RowKit Go.Shelf
def sameB (a b : Vt) : Bool:=decide (a.choice = b.choice) && decide (a.value = b.value)
def supB (M : Int) (q : Nat) (v : Vt) (C : List Vt) (p : Vt→Bool) : Bool :=
 decide (bits .andNot .i64 v.support M = 0) && (decide (popF (xOf v.support) 10 = q) && (idsF (xOf v.support) 10).all fun i => C.any fun w => decide (w.signer = (i : Int)) && p w)
def pProp (v w : Vt) : Bool:=decide (w.kind = 1) && sameB v w
def pEcho (v w : Vt) : Bool:=decide (w.kind = 2) && sameB v w
def pVal (v w : Vt) : Bool:=decide (w.kind = 4) && (decide (w.round = v.round - 1) && sameB v w)
def pMix (v w : Vt) : Bool:=decide (w.kind = 4) && (decide (w.round = v.round - 1) && decide (w.choice = 2))
def pEith (v w : Vt) : Bool:=pVal v w || pMix v w
def pIn (v w : Vt) : Bool:=(xOf v.support).testBit w.signer.toNat && pVal v w
def pPrev (v w : Vt) : Bool:=decide (w.kind = 3) && (decide (w.round = v.round - 1) && sameB v w)
def pRnd (v w : Vt) : Bool:=decide (w.kind = 3) && decide (w.round = v.round)
def pRndS (v w : Vt) : Bool:=pRnd v w && sameB v w
def prevB (M : Int) (q : Nat) (v : Vt) (C : List Vt) : Bool :=
 if v.round = 1 then decide (v.choice = 0) || supB M q v C (pEcho v) else (supB M q v C (pEith v) && C.any (pIn v)) || (supB M q v C (pMix v) && C.any (pPrev v))
def allowB (M : Int) (q : Nat) (v : Vt) (C : List Vt) : Bool :=
 if v.kind = 1 then decide (v.signer = v.slot) else if v.kind = 2 then C.any (pProp v) else if v.kind = 3 then prevB M q v C else supB M q v C (pRndS v)
def AllowR (M : Int) (q : Nat) (v : Vt) (C : List Vt) (b : Bool) : Prop :=
 if v.kind = 4∧v.choice = 2 then (b = true→(xOf M).testBit v.signer.toNat = true) else b = ((xOf M).testBit v.signer.toNat && allowB M q v C)
structure FitOn (n0 : Nat) (W0 : World) (g : Nat) (lb : Array Value) (p : Vt→Bool) : Prop where
 ent : ∀ args W,(callFunc g args).run Tryz.prog W = .ok (.enter g args) W
 tells : ∀ V,Below n0 W0 V→∀ v : Vt,ValidP v→Calls Tryz.prog g (#[v.val] ++ lb) V (BoolPost V (p v))
theorem FitOn.later {n0 n1 : Nat} {W0 W1 : World} {g : Nat} {lb : Array Value} {p : Vt→Bool} (h : FitOn n0 W0 g lb p) (hb : Below n0 W0 W1) (hn : n0≤n1) : FitOn n1 W1 g lb p :=
 ⟨h.ent,fun V hV v hv => h.tells V (hb.trans (hV.mono hn)) v hv⟩
def BoxV (n0 : Nat) (W0 : World) (b : Nat) (v : Vt) : Prop:=b < n0∧Blk W0 b 46 v.cells
theorem BoxV.below {n0 : Nat} {W0 V : World} {b : Nat} {v : Vt} (h : BoxV n0 W0 b v) (hV : Below n0 W0 V) : Blk V b 46 v.cells:=h.2.below hV h.1
set_option maxRecDepth 100000 in
set_option maxHeartbeats 2000000 in
theorem jsame_any (a b : Vt) (w : World) : Calls Tryz.prog 224 #[a.val,b.val] w (BoolPost w (sameB a b)):=by
 obtain ⟨k1,hk1⟩ : ∃ k,k = decide (a.choice = b.choice):=⟨_,rfl⟩
 obtain ⟨k2,hk2⟩ : ∃ k,k = decide (a.value = b.value):=⟨_,rfl⟩
 have hr : sameB a b = (k1 && k2):=by rw [hk1,hk2]; rfl
 have e1 : (a.choice == b.choice) = k1:=by rw [hk1]; rfl
 have e2 : ∀ W,(Op.equalIn 10000 24 a.value.val b.value.val).run Tryz.prog W = .ok k2 W:=fun W => by rw [hk2]; exact eqNm a.value b.value W 9998
 have Hr:=Lib.hid hr
 clear hk1 hk2 hr
 cases k1
 ·go_enter Tryz.func224,Tryz.ntmps224
  go_wp2
  go_ret
  exact ⟨by rw [Hr.out]; rfl,((Below.refl _ _).alloc (Nat.le_refl _) _).alloc (by simp) _⟩
 ·skip
  cases k2
  ·go_enter Tryz.func224,Tryz.ntmps224
   go_wp2
   go_ret
   exact ⟨by rw [Hr.out]; rfl,((Below.refl _ _).alloc (Nat.le_refl _) _).alloc (by simp) _⟩
  ·go_enter Tryz.func224,Tryz.ntmps224
   go_wp2
   go_ret
   exact ⟨by rw [Hr.out]; rfl,((Below.refl _ _).alloc (Nat.le_refl _) _).alloc (by simp) _⟩
attribute [local go_sem ↓] Go.wp_at_zero Go.wp_at_succ loadNm loadVt loadSg loadEv
attribute [local go_sem] runNm runVt runSg runEv pickRow_some rowAt_drew rowAt_drewN
set_option maxRecDepth 100000 in
set_option maxHeartbeats 2000000 in
theorem fit_prop (v : Vt) (b n0 : Nat) (W0 : World) (hb : BoxV n0 W0 b v) : FitOn n0 W0 223 #[.pointer (some ⟨b,0,none⟩)] (pProp v):=by
 refine ⟨enters_of Tryz.func223 (by kernel_rfl) rfl,fun V hV u hu => ?_⟩
 have hB:=hb.below hV
 have hB1:=hB.alloc (Obj.cells u.cells 46)
 have x0:=hB1.row 22 rfl
 have x1:=(Blk.new V 46 u.cells).row 22 rfl
 have HS : Hid (∀ W,Calls Tryz.prog 224 #[v.val,u.val] W (BoolPost W (sameB v u))):=fun W => jsame_any v u W
 obtain ⟨k1,hk1⟩ : ∃ k,k = decide (u.kind = 1):=⟨_,rfl⟩
 have hr : pProp v u = (k1 && sameB v u):=by rw [hk1]; rfl
 have e1 : (u.kind == 1) = k1:=by rw [hk1]; rfl
 obtain ⟨k2,hk2⟩ : ∃ k,k = sameB v u:=⟨_,rfl⟩
 rw [← hk2] at HS hr
 have hbw : Below V.heap.size V (V.alloc (Obj.cells u.cells 46)):=(Below.refl _ _).alloc (Nat.le_refl _) _
 have Hr:=Lib.hid hr
 clear hk1 hk2 hr hb hB hV hu hB1
 cases k1
 ·go_enter Tryz.func223,Tryz.ntmps223
  go_wp2
  go_ret
  exact ⟨by rw [Hr.out]; rfl,hbw⟩
 ·go_enter Tryz.func223,Tryz.ntmps223
  go_wp2_with (go_at_call 224; refine (HS.out _).mono ?_; rintro en w2 ⟨rfl,hb2⟩)
  go_ret
  exact ⟨by rw [Hr.out]; rfl,hbw.trans (hb2.mono hbw.size)⟩
set_option maxRecDepth 100000 in
set_option maxHeartbeats 2000000 in
theorem fit_echo (v : Vt) (b n0 : Nat) (W0 : World) (hb : BoxV n0 W0 b v) : FitOn n0 W0 258 #[.pointer (some ⟨b,0,none⟩)] (pEcho v):=by
 refine ⟨enters_of Tryz.func258 (by kernel_rfl) rfl,fun V hV u hu => ?_⟩
 have hB:=hb.below hV
 have hB1:=hB.alloc (Obj.cells u.cells 46)
 have x0:=hB1.row 22 rfl
 have x1:=(Blk.new V 46 u.cells).row 22 rfl
 have HS : Hid (∀ W,Calls Tryz.prog 224 #[v.val,u.val] W (BoolPost W (sameB v u))):=fun W => jsame_any v u W
 obtain ⟨k1,hk1⟩ : ∃ k,k = decide (u.kind = 2):=⟨_,rfl⟩
 have hr : pEcho v u = (k1 && sameB v u):=by rw [hk1]; rfl
 have e1 : (u.kind == 2) = k1:=by rw [hk1]; rfl
 obtain ⟨k2,hk2⟩ : ∃ k,k = sameB v u:=⟨_,rfl⟩
 rw [← hk2] at HS hr
 have hbw : Below V.heap.size V (V.alloc (Obj.cells u.cells 46)):=(Below.refl _ _).alloc (Nat.le_refl _) _
 have Hr:=Lib.hid hr
 clear hk1 hk2 hr hb hB hV hu hB1
 cases k1
 ·go_enter Tryz.func258,Tryz.ntmps258
  go_wp2
  go_ret
  exact ⟨by rw [Hr.out]; rfl,hbw⟩
 ·go_enter Tryz.func258,Tryz.ntmps258
  go_wp2_with (go_at_call 224; refine (HS.out _).mono ?_; rintro en w2 ⟨rfl,hb2⟩)
  go_ret
  exact ⟨by rw [Hr.out]; rfl,hbw.trans (hb2.mono hbw.size)⟩
set_option maxRecDepth 100000 in
set_option maxHeartbeats 2000000 in
theorem fit_val (v : Vt) (hv : 1≤v.round∧v.round≤12) (b n0 : Nat) (W0 : World) (hb : BoxV n0 W0 b v) : FitOn n0 W0 259 #[.pointer (some ⟨b,0,none⟩)] (pVal v):=by
 refine ⟨enters_of Tryz.func259 (by kernel_rfl) rfl,fun V hV u hu => ?_⟩
 have hB:=hb.below hV
 have hB1:=hB.alloc (Obj.cells u.cells 46)
 have x0:=hB1.row 22 rfl
 have x1:=(Blk.new V 46 u.cells).row 22 rfl
 have c2 : (V.alloc (Obj.cells u.cells 46)).cell? ⟨b,2,none⟩ = some (I v.round):=hB1.cell 2
 have HS : Hid (∀ W,Calls Tryz.prog 224 #[v.val,u.val] W (BoolPost W (sameB v u))):=fun W => jsame_any v u W
 obtain ⟨k1,hk1⟩ : ∃ k,k = decide (u.kind = 4):=⟨_,rfl⟩
 obtain ⟨k2,hk2⟩ : ∃ k,k = decide (u.round = v.round - 1):=⟨_,rfl⟩
 obtain ⟨k3,hk3⟩ : ∃ k,k = sameB v u:=⟨_,rfl⟩
 have hr : pVal v u = (k1 && (k2 && k3)):=by rw [hk1,hk2,hk3]; rfl
 have e1 : (u.kind == 4) = k1:=by rw [hk1]; rfl
 have e2 : (u.round == v.round - 1) = k2:=by rw [hk2]; rfl
 obtain ⟨v1,v2⟩:=hv
 rw [← hk3] at HS
 have hbw : Below V.heap.size V (V.alloc (Obj.cells u.cells 46)):=(Below.refl _ _).alloc (Nat.le_refl _) _
 have Hr:=Lib.hid hr
 clear hk1 hk2 hk3 hr hb hB hV hu hB1
 cases k1
 ·go_enter Tryz.func259,Tryz.ntmps259
  go_wp2
  go_ret
  exact ⟨by rw [Hr.out]; rfl,hbw⟩
 ·skip
  cases k2
  ·go_enter Tryz.func259,Tryz.ntmps259
   go_wp2
   go_ret
   exact ⟨by rw [Hr.out]; rfl,hbw⟩
  ·go_enter Tryz.func259,Tryz.ntmps259
   go_wp2_with (go_at_call 224; refine (HS.out _).mono ?_; rintro en w2 ⟨rfl,hb2⟩)
   go_ret
   exact ⟨by rw [Hr.out]; rfl,hbw.trans (hb2.mono hbw.size)⟩
set_option maxRecDepth 100000 in
set_option maxHeartbeats 2000000 in
theorem fit_mix (v : Vt) (hv : 1≤v.round∧v.round≤12) (b n0 : Nat) (W0 : World) (hb : BoxV n0 W0 b v) : FitOn n0 W0 260 #[.pointer (some ⟨b,0,none⟩)] (pMix v):=by
 refine ⟨enters_of Tryz.func260 (by kernel_rfl) rfl,fun V hV u hu => ?_⟩
 have hB:=hb.below hV
 have hB1:=hB.alloc (Obj.cells u.cells 46)
 have x0:=hB1.row 22 rfl
 have x1:=(Blk.new V 46 u.cells).row 22 rfl
 have c2 : (V.alloc (Obj.cells u.cells 46)).cell? ⟨b,2,none⟩ = some (I v.round):=hB1.cell 2
 obtain ⟨k1,hk1⟩ : ∃ k,k = decide (u.kind = 4):=⟨_,rfl⟩
 obtain ⟨k2,hk2⟩ : ∃ k,k = decide (u.round = v.round - 1):=⟨_,rfl⟩
 obtain ⟨k3,hk3⟩ : ∃ k,k = decide (u.choice = 2):=⟨_,rfl⟩
 have hr : pMix v u = (k1 && (k2 && k3)):=by rw [hk1,hk2,hk3]; rfl
 have e1 : (u.kind == 4) = k1:=by rw [hk1]; rfl
 have e2 : (u.round == v.round - 1) = k2:=by rw [hk2]; rfl
 obtain ⟨v1,v2⟩:=hv
 have e3 : (u.choice == 2) = k3:=by rw [hk3]; rfl
 have hbw : Below V.heap.size V (V.alloc (Obj.cells u.cells 46)):=(Below.refl _ _).alloc (Nat.le_refl _) _
 have Hr:=Lib.hid hr
 clear hk1 hk2 hk3 hr hb hB hV hu hB1
 cases k1
 ·go_enter Tryz.func260,Tryz.ntmps260
  go_wp2
  go_ret
  exact ⟨by rw [Hr.out]; rfl,hbw⟩
 ·skip
  cases k2
  ·go_enter Tryz.func260,Tryz.ntmps260
   go_wp2
   go_ret
   exact ⟨by rw [Hr.out]; rfl,hbw⟩
  ·go_enter Tryz.func260,Tryz.ntmps260
   go_wp2
   go_ret
   exact ⟨by rw [Hr.out]; rfl,hbw⟩
set_option maxRecDepth 100000 in
set_option maxHeartbeats 2000000 in
theorem fit_prev (v : Vt) (hv : 1≤v.round∧v.round≤12) (b n0 : Nat) (W0 : World) (hb : BoxV n0 W0 b v) : FitOn n0 W0 263 #[.pointer (some ⟨b,0,none⟩)] (pPrev v):=by
 refine ⟨enters_of Tryz.func263 (by kernel_rfl) rfl,fun V hV u hu => ?_⟩
 have hB:=hb.below hV
 have hB1:=hB.alloc (Obj.cells u.cells 46)
 have x0:=hB1.row 22 rfl
 have x1:=(Blk.new V 46 u.cells).row 22 rfl
 have c2 : (V.alloc (Obj.cells u.cells 46)).cell? ⟨b,2,none⟩ = some (I v.round):=hB1.cell 2
 have HS : Hid (∀ W,Calls Tryz.prog 224 #[v.val,u.val] W (BoolPost W (sameB v u))):=fun W => jsame_any v u W
 obtain ⟨k1,hk1⟩ : ∃ k,k = decide (u.kind = 3):=⟨_,rfl⟩
 obtain ⟨k2,hk2⟩ : ∃ k,k = decide (u.round = v.round - 1):=⟨_,rfl⟩
 obtain ⟨k3,hk3⟩ : ∃ k,k = sameB v u:=⟨_,rfl⟩
 have hr : pPrev v u = (k1 && (k2 && k3)):=by rw [hk1,hk2,hk3]; rfl
 have e1 : (u.kind == 3) = k1:=by rw [hk1]; rfl
 have e2 : (u.round == v.round - 1) = k2:=by rw [hk2]; rfl
 obtain ⟨v1,v2⟩:=hv
 rw [← hk3] at HS
 have hbw : Below V.heap.size V (V.alloc (Obj.cells u.cells 46)):=(Below.refl _ _).alloc (Nat.le_refl _) _
 have Hr:=Lib.hid hr
 clear hk1 hk2 hk3 hr hb hB hV hu hB1
 cases k1
 ·go_enter Tryz.func263,Tryz.ntmps263
  go_wp2
  go_ret
  exact ⟨by rw [Hr.out]; rfl,hbw⟩
 ·skip
  cases k2
  ·go_enter Tryz.func263,Tryz.ntmps263
   go_wp2
   go_ret
   exact ⟨by rw [Hr.out]; rfl,hbw⟩
  ·go_enter Tryz.func263,Tryz.ntmps263
   go_wp2_with (go_at_call 224; refine (HS.out _).mono ?_; rintro en w2 ⟨rfl,hb2⟩)
   go_ret
   exact ⟨by rw [Hr.out]; rfl,hbw.trans (hb2.mono hbw.size)⟩
set_option maxRecDepth 100000 in
set_option maxHeartbeats 2000000 in
theorem fit_rnd (v : Vt) (b n0 : Nat) (W0 : World) (hb : BoxV n0 W0 b v) : FitOn n0 W0 264 #[.pointer (some ⟨b,0,none⟩)] (pRnd v):=by
 refine ⟨enters_of Tryz.func264 (by kernel_rfl) rfl,fun V hV u hu => ?_⟩
 have hB:=hb.below hV
 have hB1:=hB.alloc (Obj.cells u.cells 46)
 have c2 : (V.alloc (Obj.cells u.cells 46)).cell? ⟨b,2,none⟩ = some (I v.round):=hB1.cell 2
 obtain ⟨k1,hk1⟩ : ∃ k,k = decide (u.kind = 3):=⟨_,rfl⟩
 obtain ⟨k2,hk2⟩ : ∃ k,k = decide (u.round = v.round):=⟨_,rfl⟩
 have hr : pRnd v u = (k1 && k2):=by rw [hk1,hk2]; rfl
 have e1 : (u.kind == 3) = k1:=by rw [hk1]; rfl
 have e2 : (u.round == v.round) = k2:=by rw [hk2]; rfl
 have hbw : Below V.heap.size V (V.alloc (Obj.cells u.cells 46)):=(Below.refl _ _).alloc (Nat.le_refl _) _
 have Hr:=Lib.hid hr
 clear hk1 hk2 hr hb hB hV hu hB1
 cases k1
 ·go_enter Tryz.func264,Tryz.ntmps264
  go_wp2
  go_ret
  exact ⟨by rw [Hr.out]; rfl,hbw⟩
 ·go_enter Tryz.func264,Tryz.ntmps264
  go_wp2
  go_ret
  exact ⟨by rw [Hr.out]; rfl,hbw⟩
set_option maxRecDepth 100000 in
set_option maxHeartbeats 2000000 in
theorem jhas_any (M : Int) (q nC : Nat) (A : Option Addr) (c : Nat) (C : List Vt) (g : Nat) (lb : Array Value) (p : Vt→Bool) (w : World) (hn : C.length = nC) (hr : Rd w w.heap.size A (C.flatMap vtc)) (hv : ∀ v ∈ C,ValidP v) (hf : FitOn w.heap.size w g lb p) (hsm : nC≤1000000) :
  Calls Tryz.prog 222 #[.agg #[.int .i64 M,.int .i64 (q : Int),.slice A nC c],.func (.func g) #[] lb] w (BoolPost w (C.any p)):=by
 have HN:=Lib.hid hn
 have HR:=Lib.hid hr
 have HV:=Lib.hid hv
 have HF:=Lib.hid hf
 clear hn hr hv hf
 have hbw0 : Below w.heap.size w (w.alloc (.cells #[.int .i64 M,.int .i64 (q : Int),.slice A nC c] 269)):=(Below.refl _ _).alloc (Nat.le_refl _) _
 go_enter Tryz.func222,Tryz.ntmps222
 go_wp2
 go_loopw [10] (fun iv wr => ∃ i : Nat,iv = .int .i64 (i : Int)∧i≤nC∧(C.take i).any p = false∧Below w.heap.size w wr) (fun iv _ => nC - (intOf iv).toNat)
 case atStart => exact ⟨0,rfl,by omega,by simp,hbw0⟩
 case round =>
  obtain ⟨i,rfl,hin,hno,hbw⟩:=hrel
  have HNo:=Lib.hid hno
  clear hno
  by_cases hi : i < nC
  ·have di : decide ((i : Int) < (nC : Int)) = true:=by simp; omega
   have ik : (i : Int) < (nC : Int):=by omega
   have hil : i≤1000000:=by omega
   obtain ⟨v,hvi⟩ : ∃ v,C[i]? = some v:=⟨_,List.getElem?_eq_getElem (by rw [HN.out]; exact hi)⟩
   obtain ⟨b,o,rfl,hb,hcell⟩:=HR.out.cells (by intro e; have:=flat_length vtc 22 C (vtc_len C); rw [e,HN.out] at this; simp at this; omega)
   clear hcell
   have x1 : rowAt wr b (o + i * 22) 22 = some v.cells:=(HR.out.below hbw).voteRow hvi
   have HP:=Lib.hid HF.out.tells
   have eg:=HF.out.ent
   have hvv:=HV.out v (List.mem_of_getElem? hvi)
   have HStep : Hid ((C.take (i + 1)).any p = ((C.take i).any p || p v)):=by
    unfold Hid
    rw [List.take_add_one,hvi,List.any_append]
    simp
   have HAny : Hid (p v = true→C.any p = true):=fun h => List.any_eq_true.2 ⟨v,List.mem_of_getElem? hvi,h⟩
   clear hvi
   have HVv:=Lib.hid hvv
   clear hvv
   obtain ⟨pv,hpv⟩ : ∃ k,k = p v:=⟨_,rfl⟩
   have HPv:=Lib.hid hpv
   clear hpv
   go_upto_region 4 with (refine wpList_store_blk rfl 46 (.tmp 6) (.tmp 13) rfl wr.heap.size v.cells rfl rfl 46 zeroV.cells (Blk.new wr _ _) (by rfl) (by kernel_rfl) (fun u hu => one_vt v hu) ?_; intro w4 hB4 hg4 hsz4)
   have hbw4 : Below w.heap.size w w4:=(hbw.alloc hbw.size _).grown hg4 (Nat.le_trans hbw.size (by simp)) (fun k hk => by injection hk with hk; subst hk; exact hbw.size)
   have x4:=hB4.row 22 rfl
   clear x1 hB4 hg4 hsz4
   try go_frame
   go_wp2_with fail
   refine (HP.out _ hbw4 v HVv.out).mono ?_
   rw [← HPv.out]
   rintro en w5 ⟨rfl,hb5⟩
   have hbw5:=hbw4.trans (hb5.mono hbw4.size)
   cases pv with
   | true =>
    go_wp2
    go_ret
    exact ⟨by rw [HAny.out HPv.out.symm]; rfl,hbw5⟩
   | false =>
    go_wp2
    go_roundw
    case rel => exact ⟨i + 1,by go_num,by omega,by rw [HStep.out,HNo.out,← HPv.out]; rfl,hbw5⟩
    case measure => simp [intOf]; omega
  ·have di : decide ((i : Int) < (nC : Int)) = false:=by simp; omega
   have hin' : i = nC:=by omega
   go_wp2
   go_ret
   refine ⟨?_,hbw⟩
   have:=HNo.out
   rw [hin',← HN.out,List.take_length] at this
   rw [this]
   rfl
end
end Go.Proofs.YtadllffeoibelaaGreat
