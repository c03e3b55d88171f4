/-
 For every step and every number of a process, the methods of a nil game return zero values: the law GameNil returns true. No condition.
-/
import Derived.Test.YtadllffeoibelaaGreatS1
import Derived.Test.YtadllffeoibelaaGreatS52
import Derived.ShutString
import Derived.ChangeOld
namespace Go.Proofs.YtadllffeoibelaaGreat
namespace gameNil
open Go.ChangeShapes Go.WideShapes Go.ChangeAt Go.RowKit
theorem own : ownKnob Tryz.prog.godebug = none:=by kernel_rfl
theorem laidOut : laidOutB Tryz.prog = true:=by kernel_rfl
set_option maxRecDepth 100000 in
set_option maxHeartbeats 1000000 in
theorem lifted (os : Os) (started : os.Started) (H : Type) (enc : TypeId × Value→H) :
  ReturnsInHanded {} Tryz.checked os 9 .any (Rows.gameNilSpec.pre6 enc Tryz.prog Tryz.f9 Rows.gameNilRow.domain false) (Rows.gameNilSpec.post enc Tryz.prog Tryz.f9 false true false false):=by
 refine returnsInHanded_of_change_sized (C:=Tryz.checked) own started (by kernel_rfl) Tryz.func9
  (ChangeSpec.witness6 (enc:=enc) (C:=Tryz.checked) false ⟨#[],#[.agg #[.int .i64 0,.int .i64 0,.int .i64 0,.int .i64 0,.int .i64 0,.int .i64 0,.int .i64 0,.int .i64 0,.int .i64 0,.int .u8 0,.int .u8 0,.int .u8 0,.int .u8 0,.int .u8 0,.int .u8 0,.int .u8 0,.int .u8 0,.int .u8 0,.int .u8 0,.int .u8 0,.int .u8 0,.int .u8 0,.int .u8 0,.int .u8 0,.int .u8 0],.int .i64 0],[]⟩ 8 (by kernel_rfl) (by kernel_rfl) (by kernel_rfl) (by kernel_rfl)) ?_
 intro W base args ds gs before hval0 hW hcnd hsz0 _
 have hval : ∀ (j : Nat) t v,Tryz.f9.params[j]? = some t→args[j]? = some v→Value.okWide Tryz.prog W .any base t v:=hval0
 have hW':=hW
 obtain ⟨p,q,hA0,hV,rfl,hfz,hnd⟩:=hW
 have hA : DataW.TrodAll enc Tryz.prog W 0 (fun _ => true) true Tryz.f9.params.toList args.toList ds p:=hA0
 have hsz : (DataW.weightsEach Tryz.prog (Tryz.f9.params.toList ++ Rows.gameNilSpec.plain.varTypes Tryz.prog) (ds ++ gs)).all (·≤reachBytes) = true:=hsz0
 rw [Tryz.params9] at hA hval hsz
 obtain ⟨v0,vs0,d0,ds0,p0,q0,hargs,rfl,rfl,h0,r0⟩:=trodAll_cons hA
 obtain ⟨v1,vs1,d1,ds1,p1,q1,ha1,rfl,rfl,h1,r1⟩:=trodAll_cons r0
 subst ha1
 obtain ⟨rfl,rfl,rfl⟩:=trodAll_nil r1
 obtain rfl : args = #[v0,v1]:=by cases args; simp_all
 obtain ⟨rfl,rfl⟩:=trodVars_none hV
 have hwt : ∀ k ∈ DataW.weightsEach Tryz.prog ([48,3] ++ Rows.gameNilSpec.plain.varTypes Tryz.prog) ([d0,d1] ++ []),k≤reachBytes:=fun k hk => by simpa using List.all_eq_true.1 hsz k hk
 have k0:=h0
 have lt0 : ∀ x ∈ p0,x.block < W.heap.size:=by obtain ⟨m,hm⟩:=k0; exact DataW.trod_lt m _ _ _ hm
 obtain ⟨s0,hv0⟩ : ∃ s : Stp,v0.cells.toList = s.cells.toList:=by
  obtain ⟨fuel,hf⟩:=h0
  exact open_step hf
 obtain ⟨cs0,hag0,_⟩:=okWide_struct Tryz.underlying48 (hval 0 48 v0 rfl rfl)
 obtain rfl:=agg_of hag0 hv0
 clear hag0 hv0
 have k1:=h1
 have lt1 : ∀ x ∈ p1,x.block < W.heap.size:=by obtain ⟨m,hm⟩:=k1; exact DataW.trod_lt m _ _ _ hm
 obtain ⟨n1,hv1,_,hw1⟩ : ∃ n : Int,v1.cells.toList = [.int .i64 n]∧True∧(Lit.int .i64 n).wf = true:=by
  obtain ⟨fuel,hf⟩:=h1
  obtain ⟨n,e,_,hw⟩:=DataW.trod_int Tryz.underlying3 hf
  exact ⟨n,e,trivial,hw⟩
 obtain ⟨m1,rfl⟩:=okWide_int Tryz.underlying3 (hval 1 3 v1 rfl rfl)
 simp [Value.cells] at hv1
 subst hv1
 clear hA0 hval0
 refine (gameNil_any s0 m1 W).mono fun e W' ⟨he,bel⟩ => ?_
 subst he
 exact ⟨_,rfl,_,_,_,[],_,[],hW',trodAll_mk1 (shut_bool Tryz.underlying4 _),(trodAll_cons_mk (Below.trod laidOut (by kernel_rfl) (of_decide_eq_true (by kernel_rfl)) k0 bel lt0) (trodAll_cons_mk (Below.trod laidOut (by kernel_rfl) (of_decide_eq_true (by kernel_rfl)) k1 bel lt1) trodAll_mk0)),rfl,bel.frame _,fun h => by cases h⟩
theorem over : Rows.gameNilRow.holds Tryz.pinned (OpenSpec.ofChange Rows.gameNilSpec) :=
 OpenClaim.holds_of_wide 9 Tryz.f9 rfl rfl rfl rfl rfl rfl rfl ⟨rfl,rfl,rfl,rfl,rfl⟩ rfl rfl rfl rfl rfl (by kernel_rfl) Tryz.func9 closed
  (of_decide_eq_true (by kernel_rfl)) (by unfold Func.isWrapper; first | (rw [if_pos (by decide +kernel)]; kernel_rfl) | (rw [if_neg (by decide +kernel)]; exact ⟨rfl,rfl⟩))
  (fun os started H enc _ => lifted os started H enc)
theorem proved : Rows.GameNilSaid:=over
end gameNil
end Go.Proofs.YtadllffeoibelaaGreat
