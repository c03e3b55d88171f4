/-
 For every configuration and all steps that led no honest member beyond round 3, if fewer than a third of the members are twins or liars, fair rounds end with one decision at every honest process: the law GameEnds returns true. No condition.
-/
import Derived.Test.YtadllffeoibelaaGreatS33
import Derived.ShutString
import Derived.ChangeOld
open Go.Proofs.Tryz
namespace Go.Proofs.YtadllffeoibelaaGreat
set_option maxRecDepth 100000
set_option maxHeartbeats 32000000
set_option linter.all false
namespace gameEnds
theorem j1:(Rows.gameEndsRow.wf (OpenSpec.ofChange Rows.gameEndsSpec))=true:=by kernel_rfl
theorem j2:(laidOutB prog)=true:=Vf
theorem j3:(mapsRowed prog)=true:=Vg
theorem j4:(f6.params.all (prog.readableRec ·))=true:=by kernel_rfl
theorem j5:(namedTie prog Rows.gameEndsRow.named Rows.gameEndsSpec.vars)=true:=by kernel_rfl
theorem j6:((Rows.gameEndsRow.stops==[]))=true:=by kernel_rfl
theorem j7:((prog.stops==[]))=true:=by kernel_rfl
theorem j8:((Rows.gameEndsRow.knobs==[]))=true:=by kernel_rfl
theorem j9:((prog.stopKnobs==[]))=true:=by kernel_rfl
theorem j10:((Rows.gameEndsRow.inPlace==prog.inPlace 6))=true:=by kernel_rfl
theorem j11:((Rows.gameEndsRow.unfollowed==prog.unfollowed 6))=true:=by kernel_rfl
theorem j12:((Rows.gameEndsRow.recurses==prog.recurses 6))=true:=by kernel_rfl
theorem j13:((Rows.gameEndsRow.named==prog.varsNamed 6))=true:=by kernel_rfl
theorem j14:((Rows.gameEndsRow.maps==(f6.params.toList++Rows.gameEndsSpec.plain.varTypes prog).any (prog.mapsRec ·)))=true:=by kernel_rfl
theorem j15:((Rows.gameEndsRow.ifaces==(f6.params.toList++Rows.gameEndsSpec.plain.varTypes prog).any (prog.ifacesRec ·)))=true:=by kernel_rfl
theorem j16:((Rows.gameEndsRow.mapsOut==prog.mapsAmong f6.resultTypes.toList))=true:=by kernel_rfl
theorem j17:((Rows.gameEndsRow.loops==(f6.params.toList++Rows.gameEndsSpec.plain.varTypes prog).any (prog.loopsFrom ·)))=true:=by kernel_rfl
theorem j18:((Rows.gameEndsRow.wideKeys==(f6.params.toList++Rows.gameEndsSpec.plain.varTypes prog++f6.resultTypes.toList).any (prog.wideKeysFrom ·)))=true:=by kernel_rfl
theorem j19:(Rows.gameEndsSpec.vars.all (prog.varReadable ·))=true:=by kernel_rfl
theorem j20:(f6.resultTypes.all (fun t=>prog.readableRec t&&decide (t<prog.types.size)))=true:=by kernel_rfl
theorem j21:((Rows.gameEndsRow.ifacesOut==f6.resultTypes.toList.any (prog.ifacesRec ·)))=true:=by kernel_rfl
theorem j22:((Rows.gameEndsRow.loopsOut==f6.resultTypes.toList.any (prog.loopsFrom ·)))=true:=by kernel_rfl
theorem j23:((Rows.gameEndsRow.plainKeys==prog.plainKeys))=true:=by kernel_rfl
theorem j24:(Rows.gameEndsRow.shortTexts.isNone)=true:=by kernel_rfl
theorem j25:(prog.stopsHeard)=true:=UX
theorem j26:(prog.mayEnter)=true:=UU
theorem j27:((Rows.gameEndsRow.lifted==prog.liftsFinal))=true:=UV
theorem j28:((prog.make==some Rows.gameEndsRow.make))=true:=UW
theorem j29:((Rows.gameEndsRow.kinds==(if Rows.gameEndsRow.domain.isEmpty then[]else f6.params.toList.map fun t=>match prog.underlying t with |some (.int k)=>some k|_=>none)))=true:=by kernel_rfl
theorem j30:((Rows.gameEndsRow.pinned==Rows.gameEndsRow.pinnedBy))=true:=by kernel_rfl
theorem j31:((Rows.gameEndsRow.veiled==(f6.params.toList++Rows.gameEndsSpec.plain.varTypes prog++f6.resultTypes.toList).any (prog.veiledRec ·)))=true:=by kernel_rfl
theorem j32:(Rows.gameEndsRow.veiledFits prog f6.params.toList (f6.params.toList++Rows.gameEndsSpec.plain.varTypes prog++f6.resultTypes.toList))=true:=by kernel_rfl
theorem closed:joinedFacts prog 6 f6 Rows.gameEndsSpec Rows.gameEndsRow=true:=by
 unfold joinedFacts;exact CF (CF (CF (CF (CF (CF (CF (CF (CF (CF (CF (CF (CF (CF (CF (CF (CF (CF (CF (CF (CF (CF (CF (CF (CF (CF (CF (CF (CF (CF (CF (j1) j2) j3) j4) j5) j6) j7) j8) j9) j10) j11) j12) j13) j14) j15) j16) j17) j18) j19) j20) j21) j22) j23) j24) j25) j26) j27) j28) j29) j30) j31) j32
end gameEnds
namespace gameEnds
open Go.ChangeShapes Go.WideShapes Go.ChangeAt Go.RowKit
theorem own:ownKnob prog.godebug=none:=by kernel_rfl
theorem laidOut:laidOutB prog=true:=by kernel_rfl
theorem lifted(os:Os)(started:os.Started)(H:Type)(enc:TypeId×Value->H):ReturnsInHanded {} checked os 6 .any (Rows.gameEndsSpec.pre6 enc prog f6 Rows.gameEndsRow.domain false) (Rows.gameEndsSpec.post enc prog f6 false true false false):=by
 refine returnsInHanded_of_change_sized (C:=checked) own started (by kernel_rfl) func6
  (ChangeSpec.witness6 (enc:=enc) (C:=checked) false ⟨#[],#[.agg #[.int .i64 0,.int .i64 0,.int .i64 0,.int .u8 0,.int .u8 0,.int .u8 0,.int .u8 0,.int .u8 0,.int .u8 0,.int .u8 0,.int .u8 0],.slice none 0 0],[]⟩ 8 (by kernel_rfl) (by kernel_rfl) (by kernel_rfl) (by kernel_rfl)) ?_
 intro W base args ds gs before hD3 hW hcnd hsz0 _;have yC:∀(j:Nat) t v,f6.params[j]? =some t->args[j]? =some v->Value.okWide prog W .any base t v:=hD3;have hW':=hW;obtain⟨p,q,hA0,hV,rfl,hfz,hnd⟩:=hW;have hA:DataW.TrodAll enc prog W 0 (fun _=>true) true f6.params.toList args.toList ds p:=hA0;have hsz:(DataW.weightsEach prog (f6.params.toList++Rows.gameEndsSpec.plain.varTypes prog) (ds++gs)).all (·<=reachBytes)=true:=hsz0;rw[params6]at hA yC hsz;obtain⟨v0,vs0,d0,ds0,p0,q0,hargs,rfl,rfl,h0,r0⟩:=trodAll_cons hA;obtain⟨v1,vs1,d1,ds1,p1,q1,ha1,rfl,rfl,h1,r1⟩:=trodAll_cons r0;subst ha1;obtain⟨rfl,rfl,rfl⟩:=trodAll_nil r1;obtain rfl:args=#[v0,v1]:=by cases args;simp_all
 obtain⟨rfl,rfl⟩:=trodVars_none hV;have hwt:∀k∈DataW.weightsEach prog ([26,27]++Rows.gameEndsSpec.plain.varTypes prog) ([d0,d1]++[]),k<=reachBytes:=fun k hk=>by simpa using List.all_eq_true.1 hsz k hk
 have k0:=h0;have lt0:∀x∈p0,x.block<W.heap.size:=by obtain⟨m,hm⟩:=k0;exact DataW.trod_lt m _ _ _ hm
 obtain⟨s0,hv0⟩:∃s:Cfg,v0.cells.toList=s.cells.toList:=by
  obtain⟨fuel,hf⟩:=h0;exact SW hf
 obtain⟨cs0,hFG,_⟩:=okWide_struct underlying26 (yC 0 26 v0 rfl rfl);obtain rfl:=VW hFG hv0;clear hFG hv0;have k1:=h1;have lt1:∀x∈p1,x.block<W.heap.size:=by obtain⟨m,hm⟩:=k1;exact DataW.trod_lt m _ _ _ hm
 obtain⟨A1,l1,cap1,hv1,hr1,hok1,hl1,hm1,_⟩:∃(A:Option Addr) (l:List Stp) (cap:Nat),v1.cells.toList=[.slice A l.length cap]/\Rd W W.heap.size A (l.flatMap stc)/\(∀a∈l,a.vote.ok)/\l.length<=cap/\cap<=maxLen/\l.length*prog.bytesOf 48<=reachBytes:=by
  obtain⟨fuel,hf⟩:=h1;exact Qe stc 25 (fun a=>a.vote.ok) underlying27 PZ (by omega) (fun n cs x h _=>OB h) (fun _=>rfl) hf (JB hwt (j:=1) (t:=27) rfl rfl)
 obtain⟨a1,len1,c1,rfl⟩:=okWide_slice underlying27 (yC 1 27 v1 rfl rfl);simp[Value.cells]at hv1;obtain⟨rfl,rfl,rfl⟩:=hv1;clear hA0 hD3;refine(Qb s0 a1 l1.length c1 l1 W rfl hr1 hok1).mono fun e W' ⟨he,bel⟩=>?_
 subst he;exact⟨_,rfl,_,_,_,[],_,[],hW',trodAll_mk1 (shut_bool underlying4 _),(trodAll_cons_mk (Below.trod laidOut (by kernel_rfl) (of_decide_eq_true (by kernel_rfl)) k0 bel lt0) (trodAll_cons_mk (Below.trod laidOut (by kernel_rfl) (of_decide_eq_true (by kernel_rfl)) k1 bel lt1) trodAll_mk0)),rfl,bel.frame _,fun h=>by cases h⟩
theorem over:Rows.gameEndsRow.holds Tryz.pinned (OpenSpec.ofChange Rows.gameEndsSpec):=
 OpenClaim.holds_of_wide 6 f6 rfl rfl rfl rfl rfl rfl rfl ⟨rfl,rfl,rfl,rfl,rfl⟩ rfl rfl rfl rfl rfl (by kernel_rfl) func6 closed
  (of_decide_eq_true (by kernel_rfl)) (by unfold Func.isWrapper;first|(rw[if_pos (by decide+kernel)];kernel_rfl)|(rw[if_neg (by decide+kernel)];exact⟨rfl,rfl⟩))
  (fun os started H enc _=>lifted os started H enc)
theorem proved:Rows.GameEndsSaid:=over
end gameEnds
end Go.Proofs.YtadllffeoibelaaGreat
