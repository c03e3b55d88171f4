/-
  What these parts of the proof come to, functions walked and plain laws: Vote, KeysT, MapR, MapE, Hash. No condition.
-/
import Derived.Test.YtadllffeoibelaaGreatS1
import Derived.BigQuiet
import Derived.Deep.QuietTactic
import Derived.RegionTactic
import Derived.StillTailTactics
import Derived.Maps.RangeWalk
import Derived.Deep.RegionHeld3
namespace Go.Proofs.YtadllffeoibelaaGreat
set_option maxRecDepth 100000
set_option maxHeartbeats 32000000
section
open Go.RowKit
theorem u8x(a b:UInt8):((a.toNat:Int)=(b.toNat:Int))=(a=b):=
 propext ⟨fun h=>UInt8.toNat_inj.1 (by omega),fun h=>by rw[h]⟩
theorem El{p q r:Prop}[Decidable p][Decidable q][Decidable r](w:World)(h:(p∧q)=r):(if p then Result.ok (decide q) w else Result.ok false w)=Result.ok (decide r) w:=by
 subst h;by_cases hp:p <;> simp[hp]
theorem EW{p:Prop}[Decidable p](w:World):(if p then Result.ok true w else Result.ok false w)=Result.ok (decide p) w:=by
 by_cases hp:p <;> simp[hp]
theorem Dz(a b:Nm)(w:World)(d:Nat):(Op.equalIn (d+2) 24 a.val b.val).run Tryz.prog w= .ok (decide (a=b)) w:=by
 have u3:=Tryz.underlying5;have a3:=Tryz.isAgg5;have z3:=Tryz.sizeOf5;rw[Op.equalIn];simp only[Sem.run_bind,run_underlying Tryz.underlying24,Result.andThen_ok];simp only[Std.Legacy.Range.forIn_eq_forIn_range',Std.Legacy.Range.size,Nat.sub_zero,Nat.add_sub_cancel,Nat.div_one,List.range'_succ,List.range'_zero,List.forIn_cons,List.forIn_nil];go_simp;simp only[u8x];rw[EW]
 iterate 6 rw[El w rfl]
 refine El w ?_;cases a;cases b;simp
theorem OS(a b:Vt)(w:World):(Op.equalIn 10000 46 a.val b.val).run Tryz.prog w= .ok (decide (a=b)) w:=by
 have u3:=Tryz.underlying3;have a3:=Tryz.isAgg3;have z3:=Tryz.sizeOf3;have u4:=Tryz.underlying22;have a4:=Tryz.isAgg22;have z4:=Tryz.sizeOf22;have a5:=Tryz.isAgg24;have z5:=Tryz.sizeOf24;have hS:Tryz.prog.underlying 46=some (.struct (Tryz.prog.fieldsOf 46)):=by kernel_rfl
 rw[show(10000:Nat)=9999+1 from rfl,run_equalIn_agg w 9999 46 _ _ hS (by kernel_rfl)];have e6:=fun w=>Dz a.parent b.parent w 9997
 have e7:=fun w=>Dz a.value b.value w 9997
 simp only[Program.fieldsOf,Tryz.underlying46];go_simp;rw[EW]
 iterate 6 rw[El w rfl]
 refine El w ?_;cases a;cases b;simp
theorem H5(a:Nm)(w:World):(Op.equalIn 10000 24 a.val (.agg #[.int .u8 0,.int .u8 0,.int .u8 0,.int .u8 0,.int .u8 0,.int .u8 0,.int .u8 0,.int .u8 0])).run Tryz.prog w= .ok (decide (a=Nm.zero)) w:=Dz a Nm.zero w 9998
def btw(n lo hi:Int):Bool:=decide (lo≤n)&&decide (n≤hi)
theorem Bp(n lo hi:Int)(w:World):Calls Tryz.prog 84 #[.int .i64 n,.int .i64 lo,.int .i64 hi] w fun e w'=>e= .returned (.bool (btw n lo hi))∧w'=w:=by
 go_enter Tryz.func84,Tryz.ntmps84;go_wp2
 ·go_ret;have h:lo≤n:=by assumption
  exact⟨by simp[btw,h],rfl⟩
 ·go_ret;have h:n<lo:=by assumption
  have h':¬lo≤n:=by omega
  exact⟨by simp[btw,h'],rfl⟩
theorem OT(x c:BitVec 64):x&&& ~~~c=0#64↔x=x&&& c:=by
 constructor
 ·intro h;apply BitVec.eq_of_getLsbD_eq;intro i hi;have:=congrArg (fun y=>BitVec.getLsbD y i) h;simp only[BitVec.getLsbD_and,BitVec.getLsbD_not,hi,decide_true,Bool.true_and,BitVec.getLsbD_zero]at this;rw[BitVec.getLsbD_and];revert this;cases x.getLsbD i <;> cases c.getLsbD i <;> simp
 ·intro h;rw[h];apply BitVec.eq_of_getLsbD_eq;intro i hi;simp[hi]
theorem CP(s:Int)(h1: -9223372036854775808≤s)(h2:s≤9223372036854775807):(bits .andNot .i64 s 1023=0)↔(0≤s∧s≤1023):=by
 show IntKind.i64.wrap ((BitVec.ofInt 64 s&&& ~~~ BitVec.ofInt 64 1023).toNat:Int)=0↔_;have hx:((BitVec.ofInt 64 s).toNat:Int)=s%18446744073709551616:=by
  rw[BitVec.toNat_ofInt];omega
 have hw:∀y:BitVec 64,IntKind.i64.wrap (y.toNat:Int)=0↔y=0#64:=by
  intro y;have:=y.isLt;rw[IntKind.wrap_i64];constructor
  ·intro h;apply BitVec.eq_of_toNat_eq;simp;omega
  ·rintro rfl;simp
 rw[hw,OT];generalize BitVec.ofInt 64 s=x at*;have h3:(x&&& BitVec.ofInt 64 1023).toNat=x.toNat%1024:=by
  rw[BitVec.toNat_and];show x.toNat&&& (2^10-1)=_;rw[Nat.and_two_pow_sub_one_eq_mod]
 constructor
 ·intro h;have:=congrArg BitVec.toNat h;rw[h3]at this;omega
 ·intro h;apply BitVec.eq_of_toNat_eq;rw[h3];omega
def Ae(v:Vt):Prop:=(1≤v.kind∧v.kind≤7)∧(0≤v.signer∧v.signer≤9)∧((v.choice=1)↔¬v.value=Nm.zero)∧(0≤v.support∧v.support≤1023)∧
 ((v.kind=1∨v.kind=2)→(0≤v.slot∧v.slot≤9)∧v.round=0∧v.support=0∧v.choice=1)∧
 (v.kind=3→(0≤v.slot∧v.slot≤9)∧(1≤v.round∧v.round≤12)∧(0≤v.choice∧v.choice≤1)∧(v.round≠1∨v.choice≠0∨v.support=0))∧
 (v.kind=4→(0≤v.slot∧v.slot≤9)∧(1≤v.round∧v.round≤12)∧(0≤v.choice∧v.choice≤2))∧
 (5≤v.kind→v.slot=0∧v.round=0∧v.support=0∧v.choice=1)
instance (v:Vt):Decidable (Ae v):=by unfold Ae;infer_instance
def Vt.ok(v:Vt):Prop:=-9223372036854775808≤v.support∧v.support≤9223372036854775807
theorem Em{P:Program}{f:FuncId}{args:Array Value}{w:World}{a n:Nat}{v:Value}(h:Calls P f args (w.drewN (a+n)) fun e w'=>e= .returned v∧w'=w.drewN (a+n)):Calls P f args (w.drewN (a+n)) fun e w''=>e= .returned v∧∃m,w''=w.drewN (a+m):=
 h.mono fun _ _ ⟨he,hm⟩=>⟨he,n,hm⟩
theorem EX{a b:Bool}(h:a=b):Ending.returned (.bool a)= .returned (.bool b):=by rw[h]
theorem Fa(n lo hi:Int):(btw n lo hi=true)=(lo≤n∧n≤hi):=by simp[btw]
theorem GR{b:Bool}{p:Prop}[Decidable p](h:b=true↔p):b=decide p:=by
 by_cases hp:p
 ·rw[decide_eq_true hp];exact h.2 hp
 ·rw[decide_eq_false hp];exact Bool.eq_false_iff.2 fun hb=>hp (h.1 hb)
theorem IH(v:Vt)(w:World)(hv:v.ok)(hk:btw v.kind 1 7=true)(hs:btw v.signer 0 9=true)(zb:Bool)(hc:(v.choice==1)=true)(hzb:zb=decide (v.value=Nm.zero))(hz:zb=false)(hr:(v.round==0)=true):Calls Tryz.prog 49 #[v.val] w fun e w'=>e= .returned (.bool (decide (Ae v)))∧Below w.heap.size w w':=by
 have e0:=fun w=>H5 v.value w
 rw[←hzb]at e0;have Hzb:=AA hzb;clear hzb;subst hz;go_enter Tryz.func49,Tryz.ntmps49;go_wp2_with ((go_at_call 84;refine(Bp _ _ _ _).mono ?_;rintro e w' ⟨rfl,rfl⟩))
 go_quiet (fail)
 go_wp2_with ((go_at_call 84;refine(Bp _ _ _ _).mono ?_;rintro e w' ⟨rfl,rfl⟩))
 ·go_ret;refine⟨EX ?_,BN ((AC _ _).alloc (AB _) _) _⟩;have hn:¬(0≤v.support∧v.support≤1023):=by rw[←CP _ hv.1 hv.2];exact bne_iff_ne.1 ‹_›
  have hp:¬Ae v:=fun h=>hn h.2.2.2.1
  simp[hp]
 ·have hh:(bits BinOp.andNot IntKind.i64 v.support 1023 !=0)=false:=by assumption
  have hn:(0≤v.support∧v.support≤1023):=by rw[←CP _ hv.1 hv.2];simpa using hh
  clear hh;have HN:=AA hn;clear hn
  go_quiet (fail)
  go_wp2_with ((go_at_call 84;refine(Bp _ _ _ _).mono ?_;rintro e w' ⟨rfl,rfl⟩))
  all_goals (try (go_quiet ((go_at_call 84;exact Em (Bp _ _ _ _)))))
  all_goals (try (go_wp2_with ((go_at_call 84;refine(Bp _ _ _ _).mono ?_;rintro e w' ⟨rfl,rfl⟩))))
  all_goals (try go_ret)
  all_goals (refine⟨EX (GR ?_),by repeat (first|exact(AC _ _).alloc (AB _) _|refine BN ?_ _)⟩)
  all_goals (have hz:¬v.value=Nm.zero:=(by simpa using Hzb.out))
  all_goals (have hn:=HN.out)
  all_goals (simp only[Fa,beq_iff_eq,beq_eq_false_iff_ne]at*)
  all_goals (unfold Ae)
  all_goals (simp only[hz,not_false_eq_true,iff_true,true_iff,false_iff,Bool.false_eq_true])
  all_goals omega
theorem Gy(v:Vt)(w:World)(hv:v.ok)(hk:btw v.kind 1 7=true)(hs:btw v.signer 0 9=true)(zb:Bool)(hc:(v.choice==1)=true)(hzb:zb=decide (v.value=Nm.zero))(hz:zb=false)(hr:(v.round==0)=false):Calls Tryz.prog 49 #[v.val] w fun e w'=>e= .returned (.bool (decide (Ae v)))∧Below w.heap.size w w':=by
 have e0:=fun w=>H5 v.value w
 rw[←hzb]at e0;have Hzb:=AA hzb;clear hzb;subst hz;go_enter Tryz.func49,Tryz.ntmps49;go_wp2_with ((go_at_call 84;refine(Bp _ _ _ _).mono ?_;rintro e w' ⟨rfl,rfl⟩))
 go_quiet (fail)
 go_wp2_with ((go_at_call 84;refine(Bp _ _ _ _).mono ?_;rintro e w' ⟨rfl,rfl⟩))
 ·go_ret;refine⟨EX ?_,BN ((AC _ _).alloc (AB _) _) _⟩;have hn:¬(0≤v.support∧v.support≤1023):=by rw[←CP _ hv.1 hv.2];exact bne_iff_ne.1 ‹_›
  have hp:¬Ae v:=fun h=>hn h.2.2.2.1
  simp[hp]
 ·have hh:(bits BinOp.andNot IntKind.i64 v.support 1023 !=0)=false:=by assumption
  have hn:(0≤v.support∧v.support≤1023):=by rw[←CP _ hv.1 hv.2];simpa using hh
  clear hh;have HN:=AA hn;clear hn
  go_quiet (fail)
  go_wp2_with ((go_at_call 84;refine(Bp _ _ _ _).mono ?_;rintro e w' ⟨rfl,rfl⟩))
  all_goals (try (go_quiet ((go_at_call 84;exact Em (Bp _ _ _ _)))))
  all_goals (try (go_wp2_with ((go_at_call 84;refine(Bp _ _ _ _).mono ?_;rintro e w' ⟨rfl,rfl⟩))))
  all_goals (try go_ret)
  all_goals (refine⟨EX (GR ?_),by repeat (first|exact(AC _ _).alloc (AB _) _|refine BN ?_ _)⟩)
  all_goals (have hz:¬v.value=Nm.zero:=(by simpa using Hzb.out))
  all_goals (have hn:=HN.out)
  all_goals (simp only[Fa,beq_iff_eq,beq_eq_false_iff_ne]at*)
  all_goals (unfold Ae)
  all_goals (simp only[hz,not_false_eq_true,iff_true,true_iff,false_iff,Bool.false_eq_true])
  all_goals omega
theorem Gz(v:Vt)(w:World)(hv:v.ok)(hk:btw v.kind 1 7=true)(hs:btw v.signer 0 9=true)(zb:Bool)(hc:(v.choice==1)=false)(hzb:zb=decide (v.value=Nm.zero))(hz:zb=true)(hr:(v.round==0)=true):Calls Tryz.prog 49 #[v.val] w fun e w'=>e= .returned (.bool (decide (Ae v)))∧Below w.heap.size w w':=by
 have e0:=fun w=>H5 v.value w
 rw[←hzb]at e0;have Hzb:=AA hzb;clear hzb;subst hz;go_enter Tryz.func49,Tryz.ntmps49;go_wp2_with ((go_at_call 84;refine(Bp _ _ _ _).mono ?_;rintro e w' ⟨rfl,rfl⟩))
 go_quiet (fail)
 go_wp2_with ((go_at_call 84;refine(Bp _ _ _ _).mono ?_;rintro e w' ⟨rfl,rfl⟩))
 ·go_ret;refine⟨EX ?_,BN ((AC _ _).alloc (AB _) _) _⟩;have hn:¬(0≤v.support∧v.support≤1023):=by rw[←CP _ hv.1 hv.2];exact bne_iff_ne.1 ‹_›
  have hp:¬Ae v:=fun h=>hn h.2.2.2.1
  simp[hp]
 ·have hh:(bits BinOp.andNot IntKind.i64 v.support 1023 !=0)=false:=by assumption
  have hn:(0≤v.support∧v.support≤1023):=by rw[←CP _ hv.1 hv.2];simpa using hh
  clear hh;have HN:=AA hn;clear hn
  go_quiet (fail)
  go_wp2_with ((go_at_call 84;refine(Bp _ _ _ _).mono ?_;rintro e w' ⟨rfl,rfl⟩))
  all_goals (try (go_quiet ((go_at_call 84;exact Em (Bp _ _ _ _)))))
  all_goals (try (go_wp2_with ((go_at_call 84;refine(Bp _ _ _ _).mono ?_;rintro e w' ⟨rfl,rfl⟩))))
  all_goals (try go_ret)
  all_goals (refine⟨EX (GR ?_),by repeat (first|exact(AC _ _).alloc (AB _) _|refine BN ?_ _)⟩)
  all_goals (have hz:v.value=Nm.zero:=(by simpa using Hzb.out))
  all_goals (have hn:=HN.out)
  all_goals (simp only[Fa,beq_iff_eq,beq_eq_false_iff_ne]at*)
  all_goals (unfold Ae)
  all_goals (simp only[hz,not_true_eq_false,iff_false,true_iff,false_iff,Bool.false_eq_true])
  all_goals omega
theorem GS(v:Vt)(w:World)(hv:v.ok)(hk:btw v.kind 1 7=true)(hs:btw v.signer 0 9=true)(zb:Bool)(hc:(v.choice==1)=false)(hzb:zb=decide (v.value=Nm.zero))(hz:zb=true)(hr:(v.round==0)=false):Calls Tryz.prog 49 #[v.val] w fun e w'=>e= .returned (.bool (decide (Ae v)))∧Below w.heap.size w w':=by
 have e0:=fun w=>H5 v.value w
 rw[←hzb]at e0;have Hzb:=AA hzb;clear hzb;subst hz;go_enter Tryz.func49,Tryz.ntmps49;go_wp2_with ((go_at_call 84;refine(Bp _ _ _ _).mono ?_;rintro e w' ⟨rfl,rfl⟩))
 go_quiet (fail)
 go_wp2_with ((go_at_call 84;refine(Bp _ _ _ _).mono ?_;rintro e w' ⟨rfl,rfl⟩))
 ·go_ret;refine⟨EX ?_,BN ((AC _ _).alloc (AB _) _) _⟩;have hn:¬(0≤v.support∧v.support≤1023):=by rw[←CP _ hv.1 hv.2];exact bne_iff_ne.1 ‹_›
  have hp:¬Ae v:=fun h=>hn h.2.2.2.1
  simp[hp]
 ·have hh:(bits BinOp.andNot IntKind.i64 v.support 1023 !=0)=false:=by assumption
  have hn:(0≤v.support∧v.support≤1023):=by rw[←CP _ hv.1 hv.2];simpa using hh
  clear hh;have HN:=AA hn;clear hn
  go_quiet (fail)
  go_wp2_with ((go_at_call 84;refine(Bp _ _ _ _).mono ?_;rintro e w' ⟨rfl,rfl⟩))
  all_goals (try (go_quiet ((go_at_call 84;exact Em (Bp _ _ _ _)))))
  all_goals (try (go_wp2_with ((go_at_call 84;refine(Bp _ _ _ _).mono ?_;rintro e w' ⟨rfl,rfl⟩))))
  all_goals (try go_ret)
  all_goals (refine⟨EX (GR ?_),by repeat (first|exact(AC _ _).alloc (AB _) _|refine BN ?_ _)⟩)
  all_goals (have hz:v.value=Nm.zero:=(by simpa using Hzb.out))
  all_goals (have hn:=HN.out)
  all_goals (simp only[Fa,beq_iff_eq,beq_eq_false_iff_ne]at*)
  all_goals (unfold Ae)
  all_goals (simp only[hz,not_true_eq_false,iff_false,true_iff,false_iff,Bool.false_eq_true])
  all_goals omega
theorem Cm(v:Vt)(w:World)(hv:v.ok):Calls Tryz.prog 49 #[v.val] w fun e w'=>e= .returned (.bool (decide (Ae v)))∧Below w.heap.size w w':=by
 by_cases hk:btw v.kind 1 7=true
 case neg=>
  have hp:¬Ae v:=fun h=>hk (by rw[Fa];exact h.1)
  have HP:=AA hp;clear hp;rw[Bool.not_eq_true]at hk;go_enter Tryz.func49,Tryz.ntmps49;go_wp2_with ((go_at_call 84;refine(Bp _ _ _ _).mono ?_;rintro e w' ⟨rfl,rfl⟩))
  go_ret;exact⟨EX (decide_eq_false HP.out).symm,(AC _ _).alloc (AB _) _⟩
 by_cases hs:btw v.signer 0 9=true
 case neg=>
  have hp:¬Ae v:=fun h=>hs (by rw[Fa];exact h.2.1)
  have HP:=AA hp;clear hp;rw[Bool.not_eq_true]at hs;go_enter Tryz.func49,Tryz.ntmps49;go_wp2_with ((go_at_call 84;refine(Bp _ _ _ _).mono ?_;rintro e w' ⟨rfl,rfl⟩))
  go_ret;exact⟨EX (decide_eq_false HP.out).symm,(AC _ _).alloc (AB _) _⟩
 by_cases hz:v.value=Nm.zero
 ·by_cases hc:v.choice=1
  ·have hp:¬Ae v:=fun h=>absurd hz (h.2.2.1.1 hc)
   have HP:=AA hp;clear hp;obtain⟨zb,hzb⟩:∃zb,zb=decide (v.value=Nm.zero):=⟨_,rfl⟩;have e0:=fun w=>H5 v.value w
   rw[←hzb]at e0;obtain rfl:zb=true:=by rw[hzb];exact decide_eq_true hz
   clear hzb hz;have hc':(v.choice==1)=true:=beq_iff_eq.2 hc;clear hc;go_enter Tryz.func49,Tryz.ntmps49;go_wp2_with ((go_at_call 84;refine(Bp _ _ _ _).mono ?_;rintro e w' ⟨rfl,rfl⟩))
   go_quiet (fail)
   go_wp2;go_ret;exact⟨EX (decide_eq_false HP.out).symm,BN ((AC _ _).alloc (AB _) _) _⟩
  ·by_cases hr:v.round=0
   ·exact Gz v w hv hk hs true (beq_eq_false_iff_ne.2 hc) (decide_eq_true hz).symm rfl (beq_iff_eq.2 hr)
   ·exact GS v w hv hk hs true (beq_eq_false_iff_ne.2 hc) (decide_eq_true hz).symm rfl (beq_eq_false_iff_ne.2 hr)
 ·by_cases hc:v.choice=1
  ·by_cases hr:v.round=0
   ·exact IH v w hv hk hs false (beq_iff_eq.2 hc) (decide_eq_false hz).symm rfl (beq_iff_eq.2 hr)
   ·exact Gy v w hv hk hs false (beq_iff_eq.2 hc) (decide_eq_false hz).symm rfl (beq_eq_false_iff_ne.2 hr)
  ·have hp:¬Ae v:=fun h=>hc (h.2.2.1.2 hz)
   have HP:=AA hp;clear hp;obtain⟨zb,hzb⟩:∃zb,zb=decide (v.value=Nm.zero):=⟨_,rfl⟩;have e0:=fun w=>H5 v.value w
   rw[←hzb]at e0;obtain rfl:zb=false:=by rw[hzb];exact decide_eq_false hz
   clear hzb hz;have hc':(v.choice==1)=false:=beq_eq_false_iff_ne.2 hc;clear hc;go_enter Tryz.func49,Tryz.ntmps49;go_wp2_with ((go_at_call 84;refine(Bp _ _ _ _).mono ?_;rintro e w' ⟨rfl,rfl⟩))
   go_quiet (fail)
   go_wp2;go_ret;exact⟨EX (decide_eq_false HP.out).symm,BN ((AC _ _).alloc (AB _) _) _⟩
abbrev DG(k:Int×Int):Value:=.agg #[I k.1,I k.2]
theorem RL(a b:Int×Int)(w:World):(Op.equal 202 (DG a) (DG b)).run Tryz.prog w= .ok (decide (a=b)) w:=by
 show(Op.equalIn 10000 202 (DG a) (DG b)).run Tryz.prog w=_;have u3:=Tryz.underlying3;have a3:=Tryz.isAgg3;have z3:=Tryz.sizeOf3;rw[Op.equalIn];simp only[Sem.run_bind,run_underlying Tryz.underlying202,Result.andThen_ok];simp only[Std.Legacy.Range.forIn_eq_forIn_range',Std.Legacy.Range.size,Nat.sub_zero,Nat.add_sub_cancel,Nat.div_one,List.range'_succ,List.range'_zero,List.forIn_cons,List.forIn_nil];go_simp;rw[EW];refine El w ?_;cases a;cases b;simp
theorem G0(b:Bool)(d:Nat)(n:Int)(w:World):(Instr.checkKey b (d+1) 3 (.int .i64 n)).run Tryz.prog w= .ok () w:=by
 rw[Instr.checkKey,Sem.run_bind,run_underlying Tryz.underlying3];rfl
theorem Mb(b:Bool)(d:Nat)(n:Int)(w:World):(Instr.checkKey b (d+1) 5 (.int .u8 n)).run Tryz.prog w= .ok () w:=by
 rw[Instr.checkKey,Sem.run_bind,run_underlying Tryz.underlying5];rfl
theorem Mc(b:Bool)(k:Int×Int)(w:World):(Instr.checkKey b 10000 202 (DG k)).run Tryz.prog w= .ok () w:=by
 have a3:=Tryz.isAgg3;have z3:=Tryz.sizeOf3;have hi:=fun n w=>G0 b 9998 n w
 rw[Instr.checkKey];simp only[Sem.run_bind,run_underlying Tryz.underlying202,Result.andThen_ok];simp only[Std.Legacy.Range.forIn_eq_forIn_range',Std.Legacy.Range.size,Nat.sub_zero,Nat.add_sub_cancel,Nat.div_one,List.range'_succ,List.range'_zero,List.forIn_cons,List.forIn_nil];go_simp
theorem GT(n:Nat)(cs:Array Value)(h:∀v∈cs.toList,Instr.sameBits n v v=true):Instr.sameBits (n+1) (.agg cs) (.agg cs)=true:=by
 rw[Instr.sameBits,Bool.and_eq_true];refine⟨by simp,?_⟩;rw[List.all_eq_true];intro p hp;obtain⟨i,hi⟩:=List.mem_iff_getElem?.1 hp;rw[List.getElem?_zip_eq_some]at hi;have e:p.1=p.2:=by
  have:=hi.1.symm.trans hi.2;exact Option.some.inj this
 obtain⟨p1,p2⟩:=p;simp only at e;subst e;exact h p1 (AM hi.1)
theorem OU:Es Tryz.prog 202 DG where
 desc:=⟨_,Tryz.underlying202,fun _ _=>rfl⟩
 check:=Mc
 eq:=RL
 bits k:=GT 9999 _ (by intro v hv;simp at hv;rcases hv with rfl|rfl <;> simp[Instr.sameBits])
end
section
open Go.RowKit
open Go.ChangeMaps (setBlock)
section
variable {κ:Type}
def Bh(enc:κ→Value)(w:World)(m:Nat)(l:List (κ×Value)):Prop:=
 ∃es clock,w.heap[m]? =some (.map es clock)∧es.toList.map (fun e=>(e.key,e.val))=l.map (fun p=>(enc p.1,p.2))∧(es.toList.map (·.born)).Nodup∧∀e∈es.toList,e.born<clock
def Rng(enc:κ→Value)(w:World)(m r:Nat)(l:List (κ×Value))(cnt:Nat):Prop:=
 ∃es clock since c0 seen,w.heap[m]? =some (.map es clock)∧w.heap[r]? =some (.mapIter (some m) since seen c0)∧es.toList.map (fun e=>(e.key,e.val))=l.map (fun p=>(enc p.1,p.2))∧(es.toList.map (·.born)).Nodup∧(∀e∈es.toList,e.born<since)∧since≤c0∧since≤clock∧cnt=(leftOf es seen).size
def Iu(m r:Nat)(w:World):Nat:=match w.heap[m]?,w.heap[r]? with
 |some (.map es _),some (.mapIter _ _ seen _)=>(leftOf es seen).size
 |_,_=>0
variable {enc:κ→Value}{w w':World}{m r cnt:Nat}{l:List (κ×Value)}{P:Program}{kt:TypeId}
theorem Bh.is(h:Bh enc w m l):Cr enc w m l:=by
 obtain⟨es,c,h1,h2,_⟩:=h;exact⟨es,c,h1,h2⟩
theorem Bh.new(enc:κ→Value)(w:World):Bh enc (w.alloc (.map #[] 0)) w.heap.size []:=⟨#[],0,heap_alloc_new w _,rfl,by simp,by simp⟩
theorem Bh.alloc(h:Bh enc w m l)(o:Obj):Bh enc (w.alloc o) m l:=by
 have hl:=h.is.lt;obtain⟨es,c,h1,h2⟩:=h;exact⟨es,c,(Below.heap_alloc w o m hl).trans h1,h2⟩
theorem Bh.below{B':Nat}(h:Bh enc w m l)(hb:Below B' w w')(hm:m<B'):Bh enc w' m l:=by
 obtain⟨es,c,h1,h2⟩:=h;exact⟨es,c,(hb.block m hm).trans h1,h2⟩
theorem Bh.kept{row:Option Nat}(h:Bh enc w m l)(hg:w.grownBy w' row)(hm:some m≠row):Bh enc w' m l:=by
 have hl:=h.is.lt;obtain⟨es,c,h1,h2⟩:=h;exact⟨es,c,(hg.block m hl hm).trans h1,h2⟩
theorem Rng.left_eq(h:Rng enc w m r l cnt):Iu m r w=cnt:=by
 obtain⟨es,c,s,c0,seen,h1,h2,_,_,_,_,_,h8⟩:=h;unfold Iu;rw[h1,h2,h8]
theorem Rng.lt(h:Rng enc w m r l cnt):r<w.heap.size:=by
 obtain⟨es,c,s,c0,seen,h1,h2,_⟩:=h;exact(Aa.1 h2).1
theorem Rng.mlt(h:Rng enc w m r l cnt):m<w.heap.size:=by
 obtain⟨es,c,s,c0,seen,h1,h2,_⟩:=h;exact(Aa.1 h1).1
theorem C3(es:Array MapEntry)(j:Nat)(f:MapEntry→MapEntry)(hf:∀e,(f e).born=e.born):(es.modify j f).toList.map (·.born)=es.toList.map (·.born):=by
 apply List.ext_getElem?;intro i;simp only[AU,Array.getElem?_toList,Array.getElem?_modify];split
 ·rw[Option.map_map];congr 1
  funext e
  exact hf e
 ·rfl
variable [DecidableEq κ]
theorem Bh.store(h:Bh enc w m l)(K:Es P kt enc){t e:TypeId}(ht:P.underlying t=some (.map kt e))(k:κ)(v:Value):∃w',(Instr.mapUpdate t (.map (some m)) (enc k) v).run P w= .ok () w'∧Bh enc w' m (CJ k v l)∧w.grownBy w' (some m)∧w'.heap.size=w.heap.size:=by
 obtain⟨es,c,h1,h2,h3,h4⟩:=h;have hlt:=(Aa.1 h1).1;have put:∀o:Obj,({w with heap:=w.heap.setIfInBounds m o}:World).heap[m]? =some o:=fun o=>by simp[hlt]
 have gr:∀o:Obj,w.grownBy {w with heap:=w.heap.setIfInBounds m o} (some m):=fun o=>⟨rfl,rfl,rfl,by simp,fun i hi hne=>by
  have:m≠i:=fun e=>hne (by rw[e])
  simp[this]⟩
 unfold Instr.mapUpdate;simp only[Sem.run_bind,run_underlying ht,Result.andThen_ok,MapKept.run_getObj_map h1,K.check,D5 K k w es.toList l h2];rcases Ds K k w es.toList l 0 h2 with⟨_,a2,a3⟩|⟨j,u,_,⟨e',b2,b3,b4⟩,b5,b6,b7⟩
 ·rw[a3];simp only[Result.andThen_ok];refine⟨_,MapKept.run_setObj_map _ h1,⟨_,_,put _,?_,?_,?_⟩,gr _,by simp⟩
  ·rw[a2];simp[h2]
  ·rw[Array.toList_push,Ac,List.nodup_append];refine⟨h3,by simp,?_⟩;intro x hx y hy;obtain⟨e1,he1,rfl⟩:=List.mem_map.1 hx;simp only[List.map_cons,List.map_nil,AR]at hy;have:=h4 e1 he1;omega
  ·intro x hx;rw[Array.toList_push]at hx;rcases AP.1 hx with hx|hx
   ·have:=h4 x hx;omega
   ·rw[AR.1 hx];exact Nat.lt_succ_self c
 ·rw[b7];simp only[Result.andThen_ok,Sem.run_bind,Nat.zero_add];have he:es[j]? =some e':=by rw[←Array.getElem?_toList];exact b2
  have hs:(Instr.keyThatStays (((es[j]?).map (·.key)).getD (enc k)) (enc k)).run P w= .ok (enc k) w:=by
   rw[he];unfold Instr.keyThatStays;simp only[Option.map_some,Option.getD_some,b3,K.bits,if_true];rfl
  rw[hs];simp only[Result.andThen_ok];refine⟨_,MapKept.run_setObj_map _ h1,⟨_,_,put _,?_,?_,?_⟩,gr _,by simp⟩
  ·rw[b5];apply List.ext_getElem?;intro i;have h3:=congrArg (fun x=>x[i]?) h2;simp only[AU,Array.getElem?_toList]at h3 ⊢;rw[Array.getElem?_modify,List.getElem?_set];by_cases hij:j=i
   ·subst hij;simp[he,b6]
   ·simp[hij,h3]
  ·rw[C3 es j (fun e=>{e with key:=enc k,val:=v}) (fun _=>rfl)];exact h3
  ·intro x hx;have hb:x.born∈(es.toList.map (·.born)):=by
    rw[←C3 es j (fun e=>{e with key:=enc k,val:=v}) (fun _=>rfl)];exact List.mem_map.2 ⟨x,hx,rfl⟩
   obtain⟨y,hy,hyb⟩:=List.mem_map.1 hb;rw[←hyb];exact h4 y hy
end
section
variable {κ:Type}{enc:κ→Value}{P:Program}(w:World){ops:Array Oper}{rest:List Oper}{o:Oper}{a:Act}{Q:Exit→Act→World→Prop}
end
end
section
open Go.RowKit
section
variable {κ:Type}{enc:κ→Value}{w w':World}{m b:Nat}{l:List (κ×Value)}{P:Program}{kt:TypeId}{k:κ}
def Upd[DecidableEq κ](k:κ)(v:Value)(l l':List (κ×Value)):Prop:=∀p∈l',p∈l∨p=(k,v)
theorem Fp:∀(es:List MapEntry) (i:Nat) (e:MapEntry),(es.map (·.born)).Nodup→es[i]? =some e→es.findIdx? (fun x=>(x.born:Int)==(e.born:Int))=some i
 |[],i,e,_,h=>by simp at h
 |x::r,0,e,_,h=>by
  simp at h;subst h;simp[List.findIdx?_cons]
 |x::r,i+1,e,hn,h=>by
  simp only[List.getElem?_cons_succ]at h;rw[List.map_cons,List.nodup_cons]at hn;have hne:x.born≠e.born:=fun he=>hn.1 (by rw[he];exact List.mem_map.2 ⟨e,AM h,rfl⟩)
  have hb:((x.born:Int)==(e.born:Int))=false:=by simp;omega
  rw[List.findIdx?_cons,hb,Fp r i e hn.2 h];rfl
variable [DecidableEq κ]
theorem Pg(k:κ):∀(j:Nat) (l:List (κ×Value)),(∀v,CJ k v l=l.set j (k,v))→j<l.length→(l[j]?).map (·.1)=some k
 |j,[],_,h=>by simp at h
 |0,p::r,h,_=>by
  by_cases hk:k=p.1
  ·simp[hk]
  ·have:=h undef;rw[CJ,if_neg hk,List.set_cons_zero,List.cons.injEq]at this;exact absurd (by rw[this.1]) hk
 |j+1,p::r,h,hj=>by
  by_cases hk:k=p.1
  ·have h1:=h (.bool true);have h2:=h (.bool false);rw[CJ,if_pos hk,List.set_cons_succ,List.cons.injEq]at h1 h2;have:=h1.1.trans h2.1.symm;injection this with _ h3
   injection h3 with h3
   cases h3
  ·rw[List.getElem?_cons_succ];refine Pg k j r (fun v=>?_) (by simpa using hj);have:=h v;rw[CJ,if_neg hk,List.set_cons_succ,List.cons.injEq]at this;exact this.2
end
def LP(v k:UInt64):UInt64:=v<<<k|||v>>>(64-k)
theorem Sq(v:UInt64):bits BinOp.or IntKind.u64 (IntKind.u64.wrap ((v.toNat:Int)*8192)) ((v.toNat:Int)/2251799813685248)=((LP v 13).toNat:Int):=by
 have h1:IntKind.u64.wrap ((v.toNat:Int)*8192)=((v<<<(13:UInt64)).toNat:Int):=by
  rw[UInt64.toNat_shiftLeft,IntKind.wrap_u64];simp only[show((13:UInt64).toNat%64)=13 from rfl,Nat.shiftLeft_eq];omega
 have h2:((v.toNat:Int)/2251799813685248)=((v>>>(64-13:UInt64)).toNat:Int):=by
  rw[UInt64.toNat_shiftRight];simp only[show((64-13:UInt64).toNat%64)=51 from rfl,Nat.shiftRight_eq_div_pow];omega
 rw[h1,h2,Tc];rfl
theorem Sr(v:UInt64):bits BinOp.or IntKind.u64 (IntKind.u64.wrap ((v.toNat:Int)*4294967296)) ((v.toNat:Int)/4294967296)=((LP v 32).toNat:Int):=by
 have h1:IntKind.u64.wrap ((v.toNat:Int)*4294967296)=((v<<<(32:UInt64)).toNat:Int):=by
  rw[UInt64.toNat_shiftLeft,IntKind.wrap_u64];simp only[show((32:UInt64).toNat%64)=32 from rfl,Nat.shiftLeft_eq];omega
 have h2:((v.toNat:Int)/4294967296)=((v>>>(64-32:UInt64)).toNat:Int):=by
  rw[UInt64.toNat_shiftRight];simp only[show((64-32:UInt64).toNat%64)=32 from rfl,Nat.shiftRight_eq_div_pow];omega
 rw[h1,h2,Tc];rfl
theorem NX{a b:Int}(h:a=b):Ending.returned (.int .u64 a)= .returned (.int .u64 b):=by rw[h]
theorem Tl(v:UInt64)(w:World):Calls Tryz.prog 183 #[U v,.int .i64 13] w fun e w'=>e= .returned (U (LP v 13))∧w'=w:=by
 have hb:bits BinOp.and IntKind.u64 13 63=13:=by decide+kernel
 go_enter Tryz.func183,Tryz.ntmps183;go_wp2;go_ret;exact⟨NX (Sq v),rfl⟩
theorem Tm(v:UInt64)(w:World):Calls Tryz.prog 183 #[U v,.int .i64 32] w fun e w'=>e= .returned (U (LP v 32))∧w'=w:=by
 have hb:bits BinOp.and IntKind.u64 32 63=32:=by decide+kernel
 go_enter Tryz.func183,Tryz.ntmps183;go_wp2;go_ret;exact⟨NX (Sr v),rfl⟩
def Ss(s:UInt64×UInt64):UInt64×UInt64:=(LP (s.1+s.2) 32*0x9e3779b97f4a7c15,LP s.2 13^^^(s.1+s.2))
theorem RM(x:UInt64):IntKind.u64.wrap ((x.toNat:Int)*11400714819323198485)=((x*0x9e3779b97f4a7c15).toNat:Int):=by
 rw[IntKind.wrap_u64,UInt64.toNat_mul,show(0x9e3779b97f4a7c15:UInt64).toNat=11400714819323198485 from rfl];omega
def FB:Nat→UInt64×UInt64→UInt64×UInt64
 |0,s=>s
 |n+1,s=>Ss (FB n s)
theorem NY(n:Nat)(x y:UInt64)(b:Nat)(w:World)(hn:n≤1000)(hb:Blk w b 193 #[U x,U y]):Calls Tryz.prog 126 #[.pointer (some ⟨b,0,none⟩),.int .i64 n] w fun e w'=>e= .returned (.tuple #[])∧Blk w' b 193 #[U (FB n (x,y)).1,U (FB n (x,y)).2]∧w.grownBy w' (some b)∧w'.heap.size=w.heap.size:=by
 go_enter Tryz.func126,Tryz.ntmps126;go_wp2
 go_loopw [5] (fun i wr=>∃k:Nat,k≤n∧i= .int .i64 k∧Blk wr b 193 #[U (FB k (x,y)).1,U (FB k (x,y)).2]∧w.grownBy wr (some b)∧wr.heap.size=w.heap.size)
  (fun i _=>n-(intOf i).toNat)
 case atStart=>exact⟨0,Nat.zero_le _,rfl,hb,Ai _ _,rfl⟩
 case round=>
  obtain⟨k,hk,rfl,hB,hg,hs⟩:=hrel;by_cases hlt:k<n
  ·have hsucc:FB (k+1) (x,y)=Ss (FB k (x,y)):=rfl;have Hs:=AA hsucc;clear hsucc;generalize hm:FB k (x,y)=s at*;obtain⟨a,c⟩:=s;have Hm:=AA hm;clear hm;have c0:=hB.cell 0;have c1:=hB.cell 1;have f0:=hB.frozen 0;have f1:=hB.frozen 1;simp at c0 c1;go_wp2
   go_region
   simp only[Td];generalize hsum:a+c=s at*;have Hsum:=AA hsum;clear hsum;have hB2:=(hB.put 0 (U s)).drew;have hg2:=BX (Bi hg (p:=⟨b,0,none⟩) rfl (U s));have hs2:((wr.setCell ⟨b,0,none⟩ (U s)).drew).heap.size=w.heap.size:=by simpa[World.setCell]using hs
   generalize (World.setCell wr ⟨b,0,none⟩ (U s)).drew=w2 at*;clear hB hg hs c0 c1 f0 f1;have c0:=hB2.cell 0;have c1:=hB2.cell 1;have f0:=hB2.frozen 0;have f1:=hB2.frozen 1;simp at c0 c1;go_wp2;refine wp_region_still_tail 11 (by kernel_rfl) (by kernel_rfl) ?_;simp only[List.take_succ_cons,List.take_zero,List.drop_succ_cons,List.drop_zero]
   iterate 5 still_step
   still_call (Tl _ _)
   iterate 5 still_step
   refine wpStill_nil ?_;change wpList _ _ _ _ _ w2.drew;go_wp2_with fail
   simp only[NM];generalize hx2:LP c 13^^^s=y2 at*;have Hx2:=AA hx2;clear hx2;have hB3:=(hB2.put 1 (U y2)).drew;have hg3:=BX (Bi hg2 (p:=⟨b,1,none⟩) rfl (U y2));have hs3:((w2.setCell ⟨b,1,none⟩ (U y2)).drew).heap.size=w.heap.size:=by simpa[World.setCell]using hs2
   generalize (w2.setCell ⟨b,1,none⟩ (U y2)).drew=w3 at*;clear hB2 hg2 hs2 c0 c1 f0 f1;have c0:=hB3.cell 0;have c1:=hB3.cell 1;have f0:=hB3.frozen 0;simp at c0 c1;refine(Tm _ _).mono ?_;rintro e w' ⟨rfl,rfl⟩;go_wp2_with fail
   simp only[RM];go_roundw
   case rel=>
    refine⟨k+1,by omega,by go_num,?_,?_,?_⟩
    ·rw[Hs.out];have:=hB3.put 0 (U (LP s 32*0x9e3779b97f4a7c15));simp only[Ss,Hsum.out,Hx2.out];exact this
    ·exact Bi hg3 rfl _
    ·simpa[World.setCell]using hs3
   case measure=>simp[intOf];omega
  ·obtain rfl:k=n:=by omega
   go_wp2;go_end0;exact⟨rfl,hB,hg,hs⟩
end
end Go.Proofs.YtadllffeoibelaaGreat
