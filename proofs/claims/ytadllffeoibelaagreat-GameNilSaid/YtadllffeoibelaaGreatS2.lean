/-
  What these parts of the proof come to, functions walked and plain laws: Vote, KeysT, MapR. No condition.
-/
import Derived.Test.YtadllffeoibelaaGreatS1
import Derived.BigQuiet
import Derived.Deep.QuietTactic
import Derived.RegionTactic
import Derived.StillTailTactics
import Derived.Maps.RangeWalk
namespace Go.Proofs.YtadllffeoibelaaGreat
section
open Go.RowKit
theorem u8x (a b : UInt8) : ((a.toNat : Int) = (b.toNat : Int)) = (a = b) :=
 propext ⟨fun h => UInt8.toNat_inj.1 (by omega),fun h => by rw [h]⟩
theorem ite_ok {p q r : Prop} [Decidable p] [Decidable q] [Decidable r] (w : World) (h : (p∧q) = r) : (if p then Result.ok (decide q) w else Result.ok false w) = Result.ok (decide r) w:=by
 subst h
 by_cases hp : p <;> simp [hp]
theorem ite_last {p : Prop} [Decidable p] (w : World) : (if p then Result.ok true w else Result.ok false w) = Result.ok (decide p) w:=by
 by_cases hp : p <;> simp [hp]
set_option maxRecDepth 100000 in
theorem eqNm (a b : Nm) (w : World) (d : Nat) : (Op.equalIn (d + 2) 24 a.val b.val).run Tryz.prog w = .ok (decide (a = b)) w:=by
 have u3:=Tryz.underlying5
 have a3:=Tryz.isAgg5
 have z3:=Tryz.sizeOf5
 rw [Op.equalIn]
 simp only [Sem.run_bind,run_underlying Tryz.underlying24,Result.andThen_ok]
 simp only [Std.Legacy.Range.forIn_eq_forIn_range',Std.Legacy.Range.size,Nat.sub_zero,Nat.add_sub_cancel,Nat.div_one,List.range'_succ,List.range'_zero,List.forIn_cons,List.forIn_nil]
 go_simp
 simp only [u8x]
 rw [ite_last]
 iterate 6 rw [ite_ok w rfl]
 refine ite_ok w ?_
 cases a; cases b; simp
set_option maxRecDepth 100000 in
theorem eqVt (a b : Vt) (w : World) : (Op.equalIn 10000 46 a.val b.val).run Tryz.prog w = .ok (decide (a = b)) w:=by
 have u3:=Tryz.underlying3
 have a3:=Tryz.isAgg3
 have z3:=Tryz.sizeOf3
 have u4:=Tryz.underlying22
 have a4:=Tryz.isAgg22
 have z4:=Tryz.sizeOf22
 have a5:=Tryz.isAgg24
 have z5:=Tryz.sizeOf24
 have hS : Tryz.prog.underlying 46 = some (.struct (Tryz.prog.fieldsOf 46)):=by kernel_rfl
 rw [show (10000 : Nat) = 9999 + 1 from rfl,run_equalIn_agg w 9999 46 _ _ hS (by kernel_rfl)]
 have e6:=fun w => eqNm a.parent b.parent w 9997
 have e7:=fun w => eqNm a.value b.value w 9997
 simp only [Program.fieldsOf,Tryz.underlying46]
 go_simp
 rw [ite_last]
 iterate 6 rw [ite_ok w rfl]
 refine ite_ok w ?_
 cases a; cases b; simp
theorem eqNm0 (a : Nm) (w : World) : (Op.equalIn 10000 24 a.val (.agg #[.int .u8 0,.int .u8 0,.int .u8 0,.int .u8 0,.int .u8 0,.int .u8 0,.int .u8 0,.int .u8 0])).run Tryz.prog w = .ok (decide (a = Nm.zero)) w:=eqNm a Nm.zero w 9998
def btw (n lo hi : Int) : Bool:=decide (lo≤n) && decide (n≤hi)
theorem btw_any (n lo hi : Int) (w : World) :
  Calls Tryz.prog 84 #[.int .i64 n,.int .i64 lo,.int .i64 hi] w fun e w' => e = .returned (.bool (btw n lo hi))∧w' = w:=by
 go_enter Tryz.func84,Tryz.ntmps84
 go_wp2
 ·go_ret
  have h : lo≤n:=by assumption
  exact ⟨by simp [btw,h],rfl⟩
 ·go_ret
  have h : n < lo:=by assumption
  have h' : ¬ lo≤n:=by omega
  exact ⟨by simp [btw,h'],rfl⟩
theorem bv_andNot (x c : BitVec 64) : x &&& ~~~c = 0#64 ↔ x = x &&& c:=by
 constructor
 ·intro h
  apply BitVec.eq_of_getLsbD_eq
  intro i hi
  have:=congrArg (fun y => BitVec.getLsbD y i) h
  simp only [BitVec.getLsbD_and,BitVec.getLsbD_not,hi,decide_true,Bool.true_and,BitVec.getLsbD_zero] at this
  rw [BitVec.getLsbD_and]
  revert this
  cases x.getLsbD i <;> cases c.getLsbD i <;> simp
 ·intro h
  rw [h]
  apply BitVec.eq_of_getLsbD_eq
  intro i hi
  simp [hi]
theorem andNot_zero (s : Int) (h1 : -9223372036854775808≤s) (h2 : s≤9223372036854775807) : (bits .andNot .i64 s 1023 = 0) ↔ (0≤s∧s≤1023):=by
 show IntKind.i64.wrap ((BitVec.ofInt 64 s &&& ~~~ BitVec.ofInt 64 1023).toNat : Int) = 0 ↔ _
 have hx : ((BitVec.ofInt 64 s).toNat : Int) = s % 18446744073709551616:=by
  rw [BitVec.toNat_ofInt]; omega
 have hw : ∀ y : BitVec 64,IntKind.i64.wrap (y.toNat : Int) = 0 ↔ y = 0#64:=by
  intro y
  have:=y.isLt
  rw [IntKind.wrap_i64]
  constructor
  ·intro h
   apply BitVec.eq_of_toNat_eq
   simp; omega
  ·rintro rfl; simp
 rw [hw,bv_andNot]
 generalize BitVec.ofInt 64 s = x at *
 have h3 : (x &&& BitVec.ofInt 64 1023).toNat = x.toNat % 1024:=by
  rw [BitVec.toNat_and]
  show x.toNat &&& (2 ^ 10 - 1) = _
  rw [Nat.and_two_pow_sub_one_eq_mod]
 constructor
 ·intro h
  have:=congrArg BitVec.toNat h
  rw [h3] at this
  omega
 ·intro h
  apply BitVec.eq_of_toNat_eq
  rw [h3]; omega
def ValidP (v : Vt) : Prop:=(1≤v.kind∧v.kind≤7)∧(0≤v.signer∧v.signer≤9)∧((v.choice = 1) ↔ ¬ v.value = Nm.zero)∧(0≤v.support∧v.support≤1023) ∧
 ((v.kind = 1∨v.kind = 2)→(0≤v.slot∧v.slot≤9)∧v.round = 0∧v.support = 0∧v.choice = 1) ∧
 (v.kind = 3→(0≤v.slot∧v.slot≤9)∧(1≤v.round∧v.round≤12)∧(0≤v.choice∧v.choice≤1)∧(v.round ≠ 1∨v.choice ≠ 0∨v.support = 0)) ∧
 (v.kind = 4→(0≤v.slot∧v.slot≤9)∧(1≤v.round∧v.round≤12)∧(0≤v.choice∧v.choice≤2)) ∧
 (5≤v.kind→v.slot = 0∧v.round = 0∧v.support = 0∧v.choice = 1)
instance (v : Vt) : Decidable (ValidP v):=by unfold ValidP; infer_instance
def Vt.ok (v : Vt) : Prop:=-9223372036854775808≤v.support∧v.support≤9223372036854775807
theorem quiet_same {P : Program} {f : FuncId} {args : Array Value} {w : World} {a n : Nat} {v : Value}
  (h : Calls P f args (w.drewN (a + n)) fun e w' => e = .returned v∧w' = w.drewN (a + n)) :
  Calls P f args (w.drewN (a + n)) fun e w'' => e = .returned v∧∃ m,w'' = w.drewN (a + m) :=
 h.mono fun _ _ ⟨he,hm⟩ => ⟨he,n,hm⟩
theorem ret_b {a b : Bool} (h : a = b) : Ending.returned (.bool a) = .returned (.bool b):=by rw [h]
theorem btw_iff (n lo hi : Int) : (btw n lo hi = true) = (lo≤n∧n≤hi):=by simp [btw]
theorem vp_close {b : Bool} {p : Prop} [Decidable p] (h : b = true ↔ p) : b = decide p:=by
 by_cases hp : p
 ·rw [decide_eq_true hp]; exact h.2 hp
 ·rw [decide_eq_false hp]; exact Bool.eq_false_iff.2 fun hb => hp (h.1 hb)
set_option maxRecDepth 100000 in
set_option maxHeartbeats 2000000 in
theorem valid_true_true (v : Vt) (w : World) (hv : v.ok) (hk : btw v.kind 1 7 = true) (hs : btw v.signer 0 9 = true) (zb : Bool) (hc : (v.choice == 1) = true) (hzb : zb = decide (v.value = Nm.zero)) (hz : zb = false)
  (hr : (v.round == 0) = true) :
  Calls Tryz.prog 49 #[v.val] w fun e w' => e = .returned (.bool (decide (ValidP v)))∧Below w.heap.size w w':=by
 have e0:=fun w => eqNm0 v.value w
 rw [← hzb] at e0
 have Hzb:=Lib.hid hzb; clear hzb
 subst hz
 go_enter Tryz.func49,Tryz.ntmps49
 go_wp2_with ((go_at_call 84; refine (btw_any _ _ _ _).mono ?_; rintro e w' ⟨rfl,rfl⟩))
 go_quiet (fail)
 go_wp2_with ((go_at_call 84; refine (btw_any _ _ _ _).mono ?_; rintro e w' ⟨rfl,rfl⟩))
 ·go_ret
  refine ⟨ret_b ?_,below_drewN ((Below.refl _ _).alloc (Nat.le_refl _) _) _⟩
  have hn : ¬ (0≤v.support∧v.support≤1023):=by rw [← andNot_zero _ hv.1 hv.2]; exact bne_iff_ne.1 ‹_›
  have hp : ¬ ValidP v:=fun h => hn h.2.2.2.1
  simp [hp]
 ·have hh : (bits BinOp.andNot IntKind.i64 v.support 1023 != 0) = false:=by assumption
  have hn : (0≤v.support∧v.support≤1023):=by rw [← andNot_zero _ hv.1 hv.2]; simpa using hh
  clear hh
  have HN:=Lib.hid hn; clear hn
  go_quiet (fail)
  go_wp2_with ((go_at_call 84; refine (btw_any _ _ _ _).mono ?_; rintro e w' ⟨rfl,rfl⟩))
  all_goals (try (go_quiet ((go_at_call 84; exact quiet_same (btw_any _ _ _ _)))))
  all_goals (try (go_wp2_with ((go_at_call 84; refine (btw_any _ _ _ _).mono ?_; rintro e w' ⟨rfl,rfl⟩))))
  all_goals (try go_ret)
  all_goals (refine ⟨ret_b (vp_close ?_),by repeat (first | exact (Below.refl _ _).alloc (Nat.le_refl _) _ | refine below_drewN ?_ _)⟩)
  all_goals (have hz : ¬ v.value = Nm.zero:=(by simpa using Hzb.out))
  all_goals (have hn:=HN.out)
  all_goals (simp only [btw_iff,beq_iff_eq,beq_eq_false_iff_ne] at *)
  all_goals (unfold ValidP)
  all_goals (simp only [hz,not_false_eq_true,iff_true,true_iff,false_iff,Bool.false_eq_true])
  all_goals omega
set_option maxRecDepth 100000 in
set_option maxHeartbeats 2000000 in
theorem valid_true_false (v : Vt) (w : World) (hv : v.ok) (hk : btw v.kind 1 7 = true) (hs : btw v.signer 0 9 = true) (zb : Bool) (hc : (v.choice == 1) = true) (hzb : zb = decide (v.value = Nm.zero)) (hz : zb = false)
  (hr : (v.round == 0) = false) :
  Calls Tryz.prog 49 #[v.val] w fun e w' => e = .returned (.bool (decide (ValidP v)))∧Below w.heap.size w w':=by
 have e0:=fun w => eqNm0 v.value w
 rw [← hzb] at e0
 have Hzb:=Lib.hid hzb; clear hzb
 subst hz
 go_enter Tryz.func49,Tryz.ntmps49
 go_wp2_with ((go_at_call 84; refine (btw_any _ _ _ _).mono ?_; rintro e w' ⟨rfl,rfl⟩))
 go_quiet (fail)
 go_wp2_with ((go_at_call 84; refine (btw_any _ _ _ _).mono ?_; rintro e w' ⟨rfl,rfl⟩))
 ·go_ret
  refine ⟨ret_b ?_,below_drewN ((Below.refl _ _).alloc (Nat.le_refl _) _) _⟩
  have hn : ¬ (0≤v.support∧v.support≤1023):=by rw [← andNot_zero _ hv.1 hv.2]; exact bne_iff_ne.1 ‹_›
  have hp : ¬ ValidP v:=fun h => hn h.2.2.2.1
  simp [hp]
 ·have hh : (bits BinOp.andNot IntKind.i64 v.support 1023 != 0) = false:=by assumption
  have hn : (0≤v.support∧v.support≤1023):=by rw [← andNot_zero _ hv.1 hv.2]; simpa using hh
  clear hh
  have HN:=Lib.hid hn; clear hn
  go_quiet (fail)
  go_wp2_with ((go_at_call 84; refine (btw_any _ _ _ _).mono ?_; rintro e w' ⟨rfl,rfl⟩))
  all_goals (try (go_quiet ((go_at_call 84; exact quiet_same (btw_any _ _ _ _)))))
  all_goals (try (go_wp2_with ((go_at_call 84; refine (btw_any _ _ _ _).mono ?_; rintro e w' ⟨rfl,rfl⟩))))
  all_goals (try go_ret)
  all_goals (refine ⟨ret_b (vp_close ?_),by repeat (first | exact (Below.refl _ _).alloc (Nat.le_refl _) _ | refine below_drewN ?_ _)⟩)
  all_goals (have hz : ¬ v.value = Nm.zero:=(by simpa using Hzb.out))
  all_goals (have hn:=HN.out)
  all_goals (simp only [btw_iff,beq_iff_eq,beq_eq_false_iff_ne] at *)
  all_goals (unfold ValidP)
  all_goals (simp only [hz,not_false_eq_true,iff_true,true_iff,false_iff,Bool.false_eq_true])
  all_goals omega
set_option maxRecDepth 100000 in
set_option maxHeartbeats 2000000 in
theorem valid_false_true (v : Vt) (w : World) (hv : v.ok) (hk : btw v.kind 1 7 = true) (hs : btw v.signer 0 9 = true) (zb : Bool) (hc : (v.choice == 1) = false) (hzb : zb = decide (v.value = Nm.zero)) (hz : zb = true)
  (hr : (v.round == 0) = true) :
  Calls Tryz.prog 49 #[v.val] w fun e w' => e = .returned (.bool (decide (ValidP v)))∧Below w.heap.size w w':=by
 have e0:=fun w => eqNm0 v.value w
 rw [← hzb] at e0
 have Hzb:=Lib.hid hzb; clear hzb
 subst hz
 go_enter Tryz.func49,Tryz.ntmps49
 go_wp2_with ((go_at_call 84; refine (btw_any _ _ _ _).mono ?_; rintro e w' ⟨rfl,rfl⟩))
 go_quiet (fail)
 go_wp2_with ((go_at_call 84; refine (btw_any _ _ _ _).mono ?_; rintro e w' ⟨rfl,rfl⟩))
 ·go_ret
  refine ⟨ret_b ?_,below_drewN ((Below.refl _ _).alloc (Nat.le_refl _) _) _⟩
  have hn : ¬ (0≤v.support∧v.support≤1023):=by rw [← andNot_zero _ hv.1 hv.2]; exact bne_iff_ne.1 ‹_›
  have hp : ¬ ValidP v:=fun h => hn h.2.2.2.1
  simp [hp]
 ·have hh : (bits BinOp.andNot IntKind.i64 v.support 1023 != 0) = false:=by assumption
  have hn : (0≤v.support∧v.support≤1023):=by rw [← andNot_zero _ hv.1 hv.2]; simpa using hh
  clear hh
  have HN:=Lib.hid hn; clear hn
  go_quiet (fail)
  go_wp2_with ((go_at_call 84; refine (btw_any _ _ _ _).mono ?_; rintro e w' ⟨rfl,rfl⟩))
  all_goals (try (go_quiet ((go_at_call 84; exact quiet_same (btw_any _ _ _ _)))))
  all_goals (try (go_wp2_with ((go_at_call 84; refine (btw_any _ _ _ _).mono ?_; rintro e w' ⟨rfl,rfl⟩))))
  all_goals (try go_ret)
  all_goals (refine ⟨ret_b (vp_close ?_),by repeat (first | exact (Below.refl _ _).alloc (Nat.le_refl _) _ | refine below_drewN ?_ _)⟩)
  all_goals (have hz : v.value = Nm.zero:=(by simpa using Hzb.out))
  all_goals (have hn:=HN.out)
  all_goals (simp only [btw_iff,beq_iff_eq,beq_eq_false_iff_ne] at *)
  all_goals (unfold ValidP)
  all_goals (simp only [hz,not_true_eq_false,iff_false,true_iff,false_iff,Bool.false_eq_true])
  all_goals omega
set_option maxRecDepth 100000 in
set_option maxHeartbeats 2000000 in
theorem valid_false_false (v : Vt) (w : World) (hv : v.ok) (hk : btw v.kind 1 7 = true) (hs : btw v.signer 0 9 = true) (zb : Bool) (hc : (v.choice == 1) = false) (hzb : zb = decide (v.value = Nm.zero)) (hz : zb = true)
  (hr : (v.round == 0) = false) :
  Calls Tryz.prog 49 #[v.val] w fun e w' => e = .returned (.bool (decide (ValidP v)))∧Below w.heap.size w w':=by
 have e0:=fun w => eqNm0 v.value w
 rw [← hzb] at e0
 have Hzb:=Lib.hid hzb; clear hzb
 subst hz
 go_enter Tryz.func49,Tryz.ntmps49
 go_wp2_with ((go_at_call 84; refine (btw_any _ _ _ _).mono ?_; rintro e w' ⟨rfl,rfl⟩))
 go_quiet (fail)
 go_wp2_with ((go_at_call 84; refine (btw_any _ _ _ _).mono ?_; rintro e w' ⟨rfl,rfl⟩))
 ·go_ret
  refine ⟨ret_b ?_,below_drewN ((Below.refl _ _).alloc (Nat.le_refl _) _) _⟩
  have hn : ¬ (0≤v.support∧v.support≤1023):=by rw [← andNot_zero _ hv.1 hv.2]; exact bne_iff_ne.1 ‹_›
  have hp : ¬ ValidP v:=fun h => hn h.2.2.2.1
  simp [hp]
 ·have hh : (bits BinOp.andNot IntKind.i64 v.support 1023 != 0) = false:=by assumption
  have hn : (0≤v.support∧v.support≤1023):=by rw [← andNot_zero _ hv.1 hv.2]; simpa using hh
  clear hh
  have HN:=Lib.hid hn; clear hn
  go_quiet (fail)
  go_wp2_with ((go_at_call 84; refine (btw_any _ _ _ _).mono ?_; rintro e w' ⟨rfl,rfl⟩))
  all_goals (try (go_quiet ((go_at_call 84; exact quiet_same (btw_any _ _ _ _)))))
  all_goals (try (go_wp2_with ((go_at_call 84; refine (btw_any _ _ _ _).mono ?_; rintro e w' ⟨rfl,rfl⟩))))
  all_goals (try go_ret)
  all_goals (refine ⟨ret_b (vp_close ?_),by repeat (first | exact (Below.refl _ _).alloc (Nat.le_refl _) _ | refine below_drewN ?_ _)⟩)
  all_goals (have hz : v.value = Nm.zero:=(by simpa using Hzb.out))
  all_goals (have hn:=HN.out)
  all_goals (simp only [btw_iff,beq_iff_eq,beq_eq_false_iff_ne] at *)
  all_goals (unfold ValidP)
  all_goals (simp only [hz,not_true_eq_false,iff_false,true_iff,false_iff,Bool.false_eq_true])
  all_goals omega
set_option maxRecDepth 100000 in
set_option maxHeartbeats 2000000 in
theorem valid_any (v : Vt) (w : World) (hv : v.ok) :
  Calls Tryz.prog 49 #[v.val] w fun e w' => e = .returned (.bool (decide (ValidP v)))∧Below w.heap.size w w':=by
 by_cases hk : btw v.kind 1 7 = true
 case neg =>
  have hp : ¬ ValidP v:=fun h => hk (by rw [btw_iff]; exact h.1)
  have HP:=Lib.hid hp; clear hp
  rw [Bool.not_eq_true] at hk
  go_enter Tryz.func49,Tryz.ntmps49
  go_wp2_with ((go_at_call 84; refine (btw_any _ _ _ _).mono ?_; rintro e w' ⟨rfl,rfl⟩))
  go_ret
  exact ⟨ret_b (decide_eq_false HP.out).symm,(Below.refl _ _).alloc (Nat.le_refl _) _⟩
 by_cases hs : btw v.signer 0 9 = true
 case neg =>
  have hp : ¬ ValidP v:=fun h => hs (by rw [btw_iff]; exact h.2.1)
  have HP:=Lib.hid hp; clear hp
  rw [Bool.not_eq_true] at hs
  go_enter Tryz.func49,Tryz.ntmps49
  go_wp2_with ((go_at_call 84; refine (btw_any _ _ _ _).mono ?_; rintro e w' ⟨rfl,rfl⟩))
  go_ret
  exact ⟨ret_b (decide_eq_false HP.out).symm,(Below.refl _ _).alloc (Nat.le_refl _) _⟩
 by_cases hz : v.value = Nm.zero
 ·by_cases hc : v.choice = 1
  ·have hp : ¬ ValidP v:=fun h => absurd hz (h.2.2.1.1 hc)
   have HP:=Lib.hid hp; clear hp
   obtain ⟨zb,hzb⟩ : ∃ zb,zb = decide (v.value = Nm.zero):=⟨_,rfl⟩
   have e0:=fun w => eqNm0 v.value w
   rw [← hzb] at e0
   obtain rfl : zb = true:=by rw [hzb]; exact decide_eq_true hz
   clear hzb hz
   have hc' : (v.choice == 1) = true:=beq_iff_eq.2 hc
   clear hc
   go_enter Tryz.func49,Tryz.ntmps49
   go_wp2_with ((go_at_call 84; refine (btw_any _ _ _ _).mono ?_; rintro e w' ⟨rfl,rfl⟩))
   go_quiet (fail)
   go_wp2
   go_ret
   exact ⟨ret_b (decide_eq_false HP.out).symm,below_drewN ((Below.refl _ _).alloc (Nat.le_refl _) _) _⟩
  ·by_cases hr : v.round = 0
   ·exact valid_false_true v w hv hk hs true (beq_eq_false_iff_ne.2 hc) (decide_eq_true hz).symm rfl (beq_iff_eq.2 hr)
   ·exact valid_false_false v w hv hk hs true (beq_eq_false_iff_ne.2 hc) (decide_eq_true hz).symm rfl (beq_eq_false_iff_ne.2 hr)
 ·by_cases hc : v.choice = 1
  ·by_cases hr : v.round = 0
   ·exact valid_true_true v w hv hk hs false (beq_iff_eq.2 hc) (decide_eq_false hz).symm rfl (beq_iff_eq.2 hr)
   ·exact valid_true_false v w hv hk hs false (beq_iff_eq.2 hc) (decide_eq_false hz).symm rfl (beq_eq_false_iff_ne.2 hr)
  ·have hp : ¬ ValidP v:=fun h => hc (h.2.2.1.2 hz)
   have HP:=Lib.hid hp; clear hp
   obtain ⟨zb,hzb⟩ : ∃ zb,zb = decide (v.value = Nm.zero):=⟨_,rfl⟩
   have e0:=fun w => eqNm0 v.value w
   rw [← hzb] at e0
   obtain rfl : zb = false:=by rw [hzb]; exact decide_eq_false hz
   clear hzb hz
   have hc' : (v.choice == 1) = false:=beq_eq_false_iff_ne.2 hc
   clear hc
   go_enter Tryz.func49,Tryz.ntmps49
   go_wp2_with ((go_at_call 84; refine (btw_any _ _ _ _).mono ?_; rintro e w' ⟨rfl,rfl⟩))
   go_quiet (fail)
   go_wp2
   go_ret
   exact ⟨ret_b (decide_eq_false HP.out).symm,below_drewN ((Below.refl _ _).alloc (Nat.le_refl _) _) _⟩
end
section
open Go.RowKit
abbrev encT (k : Int × Int) : Value:=.agg #[I k.1,I k.2]
set_option maxRecDepth 100000 in
theorem keyT_eq (a b : Int × Int) (w : World) : (Op.equal 202 (encT a) (encT b)).run Tryz.prog w = .ok (decide (a = b)) w:=by
 show (Op.equalIn 10000 202 (encT a) (encT b)).run Tryz.prog w = _
 have u3:=Tryz.underlying3
 have a3:=Tryz.isAgg3
 have z3:=Tryz.sizeOf3
 rw [Op.equalIn]
 simp only [Sem.run_bind,run_underlying Tryz.underlying202,Result.andThen_ok]
 simp only [Std.Legacy.Range.forIn_eq_forIn_range',Std.Legacy.Range.size,Nat.sub_zero,Nat.add_sub_cancel,Nat.div_one,List.range'_succ,List.range'_zero,List.forIn_cons,List.forIn_nil]
 go_simp
 rw [ite_last]
 refine ite_ok w ?_
 cases a; cases b; simp
theorem check_int (b : Bool) (d : Nat) (n : Int) (w : World) : (Instr.checkKey b (d + 1) 3 (.int .i64 n)).run Tryz.prog w = .ok () w:=by
 rw [Instr.checkKey,Sem.run_bind,run_underlying Tryz.underlying3]
 rfl
theorem check_byte (b : Bool) (d : Nat) (n : Int) (w : World) : (Instr.checkKey b (d + 1) 5 (.int .u8 n)).run Tryz.prog w = .ok () w:=by
 rw [Instr.checkKey,Sem.run_bind,run_underlying Tryz.underlying5]
 rfl
set_option maxRecDepth 100000 in
theorem keyT_check (b : Bool) (k : Int × Int) (w : World) : (Instr.checkKey b 10000 202 (encT k)).run Tryz.prog w = .ok () w:=by
 have a3:=Tryz.isAgg3
 have z3:=Tryz.sizeOf3
 have hi:=fun n w => check_int b 9998 n w
 rw [Instr.checkKey]
 simp only [Sem.run_bind,run_underlying Tryz.underlying202,Result.andThen_ok]
 simp only [Std.Legacy.Range.forIn_eq_forIn_range',Std.Legacy.Range.size,Nat.sub_zero,Nat.add_sub_cancel,Nat.div_one,List.range'_succ,List.range'_zero,List.forIn_cons,List.forIn_nil]
 go_simp
theorem bits_agg (n : Nat) (cs : Array Value) (h : ∀ v ∈ cs.toList,Instr.sameBits n v v = true) : Instr.sameBits (n + 1) (.agg cs) (.agg cs) = true:=by
 rw [Instr.sameBits,Bool.and_eq_true]
 refine ⟨by simp,?_⟩
 rw [List.all_eq_true]
 intro p hp
 obtain ⟨i,hi⟩:=List.mem_iff_getElem?.1 hp
 rw [List.getElem?_zip_eq_some] at hi
 have e : p.1 = p.2:=by
  have:=hi.1.symm.trans hi.2
  exact Option.some.inj this
 obtain ⟨p1,p2⟩:=p
 simp only at e
 subst e
 exact h p1 (List.mem_of_getElem? hi.1)
theorem keyT : KeyOk Tryz.prog 202 encT where
 desc:=⟨_,Tryz.underlying202,fun _ _ => rfl⟩
 check:=keyT_check
 eq:=keyT_eq
 bits k:=bits_agg 9999 _ (by intro v hv; simp at hv; rcases hv with rfl | rfl <;> simp [Instr.sameBits])
end
section
open Go.RowKit
open Go.ChangeMaps (setBlock)
section
variable {κ : Type}
def MapB (enc : κ→Value) (w : World) (m : Nat) (l : List (κ × Value)) : Prop :=
 ∃ es clock,w.heap[m]? = some (.map es clock)∧es.toList.map (fun e => (e.key,e.val)) = l.map (fun p => (enc p.1,p.2))∧(es.toList.map (·.born)).Nodup∧∀ e ∈ es.toList,e.born < clock
def Rng (enc : κ→Value) (w : World) (m r : Nat) (l : List (κ × Value)) (cnt : Nat) : Prop :=
 ∃ es clock since c0 seen,w.heap[m]? = some (.map es clock)∧w.heap[r]? = some (.mapIter (some m) since seen c0)∧es.toList.map (fun e => (e.key,e.val)) = l.map (fun p => (enc p.1,p.2))∧(es.toList.map (·.born)).Nodup∧(∀ e ∈ es.toList,e.born < since)∧since≤c0∧since≤clock∧cnt = (leftOf es seen).size
def itLeft (m r : Nat) (w : World) : Nat:=match w.heap[m]?,w.heap[r]? with
 | some (.map es _),some (.mapIter _ _ seen _) => (leftOf es seen).size
 | _,_ => 0
variable {enc : κ→Value} {w w' : World} {m r cnt : Nat} {l : List (κ × Value)} {P : Program} {kt : TypeId}
theorem MapB.is (h : MapB enc w m l) : MapIs enc w m l:=by
 obtain ⟨es,c,h1,h2,_⟩:=h
 exact ⟨es,c,h1,h2⟩
theorem MapB.new (enc : κ→Value) (w : World) : MapB enc (w.alloc (.map #[] 0)) w.heap.size []:=⟨#[],0,heap_alloc_new w _,rfl,by simp,by simp⟩
theorem MapB.alloc (h : MapB enc w m l) (o : Obj) : MapB enc (w.alloc o) m l:=by
 have hl:=h.is.lt
 obtain ⟨es,c,h1,h2⟩:=h
 exact ⟨es,c,(Below.heap_alloc w o m hl).trans h1,h2⟩
theorem MapB.below {B' : Nat} (h : MapB enc w m l) (hb : Below B' w w') (hm : m < B') : MapB enc w' m l:=by
 obtain ⟨es,c,h1,h2⟩:=h
 exact ⟨es,c,(hb.block m hm).trans h1,h2⟩
theorem MapB.kept {row : Option Nat} (h : MapB enc w m l) (hg : w.grownBy w' row) (hm : some m ≠ row) : MapB enc w' m l:=by
 have hl:=h.is.lt
 obtain ⟨es,c,h1,h2⟩:=h
 exact ⟨es,c,(hg.block m hl hm).trans h1,h2⟩
theorem Rng.left_eq (h : Rng enc w m r l cnt) : itLeft m r w = cnt:=by
 obtain ⟨es,c,s,c0,seen,h1,h2,_,_,_,_,_,h8⟩:=h
 unfold itLeft
 rw [h1,h2,h8]
theorem Rng.lt (h : Rng enc w m r l cnt) : r < w.heap.size:=by
 obtain ⟨es,c,s,c0,seen,h1,h2,_⟩:=h
 exact (Array.getElem?_eq_some_iff.1 h2).1
theorem Rng.mlt (h : Rng enc w m r l cnt) : m < w.heap.size:=by
 obtain ⟨es,c,s,c0,seen,h1,h2,_⟩:=h
 exact (Array.getElem?_eq_some_iff.1 h1).1
theorem Rng.kept {row : Option Nat} (h : Rng enc w m r l cnt) (hg : w.grownBy w' row) (hm : some m ≠ row) (hr : some r ≠ row) : Rng enc w' m r l cnt:=by
 have hl:=h.lt
 have hl2:=h.mlt
 obtain ⟨es,c,s,c0,seen,h1,h2,h3⟩:=h
 exact ⟨es,c,s,c0,seen,(hg.block m hl2 hm).trans h1,(hg.block r hl hr).trans h2,h3⟩
theorem Rng.below (h : Rng enc w m r l cnt) (hb : Below w.heap.size w w') : Rng enc w' m r l cnt:=by
 have hl:=h.lt
 have hl2:=h.mlt
 obtain ⟨es,c,s,c0,seen,h1,h2,h3⟩:=h
 exact ⟨es,c,s,c0,seen,(hb.block m hl2).trans h1,(hb.block r hl).trans h2,h3⟩
theorem Rng.alloc (h : Rng enc w m r l cnt) (o : Obj) : Rng enc (w.alloc o) m r l cnt:=h.below ((Below.refl _ _).alloc (Nat.le_refl _) _)
theorem born_modify (es : Array MapEntry) (j : Nat) (f : MapEntry→MapEntry) (hf : ∀ e,(f e).born = e.born) : (es.modify j f).toList.map (·.born) = es.toList.map (·.born):=by
 apply List.ext_getElem?
 intro i
 simp only [List.getElem?_map,Array.getElem?_toList,Array.getElem?_modify]
 split
 ·rw [Option.map_map]
  congr 1
  funext e
  exact hf e
 ·rfl
variable [DecidableEq κ]
theorem MapB.store (h : MapB enc w m l) (K : KeyOk P kt enc) {t e : TypeId} (ht : P.underlying t = some (.map kt e)) (k : κ) (v : Value) :
  ∃ w',(Instr.mapUpdate t (.map (some m)) (enc k) v).run P w = .ok () w'∧MapB enc w' m (aput k v l)∧w.grownBy w' (some m)∧w'.heap.size = w.heap.size:=by
 obtain ⟨es,c,h1,h2,h3,h4⟩:=h
 have hlt:=(Array.getElem?_eq_some_iff.1 h1).1
 have put : ∀ o : Obj,({ w with heap:=w.heap.setIfInBounds m o } : World).heap[m]? = some o:=fun o => by simp [hlt]
 have gr : ∀ o : Obj,w.grownBy { w with heap:=w.heap.setIfInBounds m o } (some m):=fun o => ⟨rfl,rfl,rfl,by simp,fun i hi hne => by
  have : m ≠ i:=fun e => hne (by rw [e])
  simp [this]⟩
 unfold Instr.mapUpdate
 simp only [Sem.run_bind,run_underlying ht,Result.andThen_ok,MapKept.run_getObj_map h1,K.check,run_findKey K k w es.toList l h2]
 rcases run_asking K k w es.toList l 0 h2 with ⟨_,a2,a3⟩ | ⟨j,u,_,⟨e',b2,b3,b4⟩,b5,b6,b7⟩
 ·rw [a3]
  simp only [Result.andThen_ok]
  refine ⟨_,MapKept.run_setObj_map _ h1,⟨_,_,put _,?_,?_,?_⟩,gr _,by simp⟩
  ·rw [a2]
   simp [h2]
  ·rw [Array.toList_push,List.map_append,List.nodup_append]
   refine ⟨h3,by simp,?_⟩
   intro x hx y hy
   obtain ⟨e1,he1,rfl⟩:=List.mem_map.1 hx
   simp only [List.map_cons,List.map_nil,List.mem_singleton] at hy
   have:=h4 e1 he1
   omega
  ·intro x hx
   rw [Array.toList_push] at hx
   rcases List.mem_append.1 hx with hx | hx
   ·have:=h4 x hx
    omega
   ·rw [List.mem_singleton.1 hx]
    exact Nat.lt_succ_self c
 ·rw [b7]
  simp only [Result.andThen_ok,Sem.run_bind,Nat.zero_add]
  have he : es[j]? = some e':=by rw [← Array.getElem?_toList]; exact b2
  have hs : (Instr.keyThatStays (((es[j]?).map (·.key)).getD (enc k)) (enc k)).run P w = .ok (enc k) w:=by
   rw [he]
   unfold Instr.keyThatStays
   simp only [Option.map_some,Option.getD_some,b3,K.bits,if_true]
   rfl
  rw [hs]
  simp only [Result.andThen_ok]
  refine ⟨_,MapKept.run_setObj_map _ h1,⟨_,_,put _,?_,?_,?_⟩,gr _,by simp⟩
  ·rw [b5]
   apply List.ext_getElem?
   intro i
   have h3:=congrArg (fun x => x[i]?) h2
   simp only [List.getElem?_map,Array.getElem?_toList] at h3 ⊢
   rw [Array.getElem?_modify,List.getElem?_set]
   by_cases hij : j = i
   ·subst hij
    simp [he,b6]
   ·simp [hij,h3]
  ·rw [born_modify es j (fun e => { e with key:=enc k,val:=v }) (fun _ => rfl)]
   exact h3
  ·intro x hx
   have hb : x.born ∈ (es.toList.map (·.born)):=by
    rw [← born_modify es j (fun e => { e with key:=enc k,val:=v }) (fun _ => rfl)]
    exact List.mem_map.2 ⟨x,hx,rfl⟩
   obtain ⟨y,hy,hyb⟩:=List.mem_map.1 hb
   rw [← hyb]
   exact h4 y hy
omit [DecidableEq κ] in
theorem MapB.range (h : MapB enc w m l) {t k e : TypeId} (ht : P.underlying t = some (.map k e)) :
  ∃ o cnt,(Instr.range t (.map (some m))).run P w = .ok (.pointer (some ⟨w.heap.size,0,none⟩)) (w.alloc o)∧Rng enc (w.alloc o) m w.heap.size l cnt:=by
 have hl:=h.is.lt
 obtain ⟨es,c,h1,h2,h3,h4⟩:=h
 exact ⟨_,_,run_range_map w t k e m es c ht h1,es,c,c,c,#[],(Below.heap_alloc w _ m hl).trans h1,heap_alloc_new w _,h2,h3,h4,Nat.le_refl _,Nat.le_refl _,rfl⟩
omit [DecidableEq κ] in
theorem Rng.next (h : Rng enc w m r l cnt) (ty : TypeId) :
  (Instr.next (.pointer (some ⟨r,0,none⟩)) false ty).run P w = .ok (.tuple #[.bool false]) w ∨
  ∃ k v w' cnt',(k,v) ∈ l∧(Instr.next (.pointer (some ⟨r,0,none⟩)) false ty).run P w = .ok (.tuple #[.bool true,enc k,v]) w'∧Rng enc w' m r l cnt'∧cnt' < cnt∧w.grownBy w' (some r)∧w'.heap.size = w.heap.size ∧
   (Instr.entry (.pointer (some ⟨r,0,none⟩))).run P w' = .ok (.tuple #[enc k,v]) w':=by
 have hrl:=h.lt
 obtain ⟨es,c,s,c0,seen,h1,h2,h3,h4,h5,h6,h7,h8⟩:=h
 have hmr : m ≠ r:=fun e => by rw [e,h2] at h1; cases h1
 rcases run_next_at (P:=P) w ty r m s c0 seen es c h2 h1 h5 h6 with ⟨_,hrun⟩ | ⟨e,he,w1,hal,hrun⟩
 ·exact .inl hrun
 ·have hmem:=mem_left he
  obtain ⟨i,hi⟩:=List.mem_iff_getElem?.1 hmem.1
  have h9:=congrArg (fun x => x[i]?) h3
  simp only [List.getElem?_map,hi,Option.map_some] at h9
  obtain ⟨p,hp,hpe⟩:=Option.map_eq_some_iff.1 h9.symm
  injection hpe with e1 e2
  obtain ⟨w2,hw2⟩ : ∃ w2,w2 = setBlock w1 r (.mapIter (some m) s (seen.push e.born) c):=⟨_,rfl⟩
  rw [← hw2] at hrun
  have hs1 : w1.heap = w.heap:=by rcases hal with rfl | rfl <;> rfl
  have hr2 : w2.heap[r]? = some (.mapIter (some m) s (seen.push e.born) c):=by rw [hw2]; simp [setBlock,hs1,hrl]
  have hm2 : w2.heap[m]? = some (.map es c):=by rw [hw2]; simp [setBlock,hs1,Ne.symm hmr,h1]
  refine .inr ⟨p.1,p.2,w2,_,List.mem_of_getElem? hp,?_,⟨es,c,s,c,seen.push e.born,hm2,hr2,h3,h4,h5,h7,h7,rfl⟩,?_,?_,?_,?_⟩
  ·rw [hrun,e1,e2]
  ·rw [h8]; exact left_shrinks es seen e he
  ·refine ⟨?_,?_,?_,?_,fun i hi hne => ?_⟩
   ·rw [hw2]; rcases hal with rfl | rfl <;> rfl
   ·rw [hw2]; rcases hal with rfl | rfl <;> rfl
   ·rw [hw2]; rcases hal with rfl | rfl <;> rfl
   ·rw [hw2]; simp [setBlock,hs1]
   ·have : r ≠ i:=fun e => hne (by rw [e])
    rw [hw2]; simp [setBlock,hs1,this]
  ·rw [hw2]; simp [setBlock,hs1]
  ·rw [e1,e2]
   exact run_entry_at w2 r m s seen es c e hr2 hm2 hmem.1 h4
end
section
variable {κ : Type} {enc : κ→Value} {P : Program} (w : World) {ops : Array Oper} {rest : List Oper} {o : Oper} {a : Act} {Q : Exit→Act→World→Prop}
theorem wpList_range_rng (hg : o.guard = none) (mo : Operand) (t : TypeId) (hop : o.op = Op.range t mo) (k e : TypeId) (ht : P.underlying t = some (.map k e)) (m : Nat) (l : List (κ × Value)) (hm : a.eval mo = .map (some m)) (h : MapB enc w m l)
  (hK : ∀ o' cnt,Rng enc (w.alloc o') m w.heap.size l cnt→wpList P ops Q rest (a.put o.dst (.pointer (some ⟨w.heap.size,0,none⟩))) (w.alloc o')) : wpList P ops Q (o :: rest) a w:=by
 refine wpList_plain hg fun K' hK' => ?_
 obtain ⟨o',cnt,hrun,hr⟩:=h.range ht
 unfold Oper.wp
 simp [execOp,hop,hm,hrun,Result.andThen]
 exact hK' _ _ (hK o' cnt hr)
theorem wpList_next_rng (hg : o.guard = none) (it : Operand) (hop : o.op = Op.next it false) (m r cnt : Nat) (l : List (κ × Value)) (hit : a.eval it = .pointer (some ⟨r,0,none⟩)) (h : Rng enc w m r l cnt)
  (hDone : wpList P ops Q rest (a.put o.dst (.tuple #[.bool false])) w)
  (hMore : ∀ k v w' cnt',(k,v) ∈ l→Rng enc w' m r l cnt'→cnt' < cnt→w.grownBy w' (some r)→w'.heap.size = w.heap.size→(Instr.entry (.pointer (some ⟨r,0,none⟩))).run P w' = .ok (.tuple #[enc k,v]) w' →
   wpList P ops Q rest (a.put o.dst (.tuple #[.bool true,enc k,v])) w') : wpList P ops Q (o :: rest) a w:=by
 refine wpList_plain hg fun K' hK' => ?_
 unfold Oper.wp
 rcases h.next (P:=P) o.type with hrun | ⟨k,v,w',cnt',hmem,hrun,hr,hlt,hgr,hsz,hen⟩
 ·simp [execOp,hop,hit,hrun,Result.andThen]
  exact hK' _ _ hDone
 ·simp [execOp,hop,hit,hrun,Result.andThen]
  exact hK' _ _ (hMore k v w' cnt' hmem hr hlt hgr hsz hen)
end
end
end Go.Proofs.YtadllffeoibelaaGreat
