/-
 For every configuration and all steps, two honest processes that decided unlike blocks hold votes from which a proof is extracted that the checker accepts, that names at least a third of the committee, and no honest member: the law GameAccounts returns true. No condition.
-/
import Derived.Test.YtadllffeoibelaaGreatS28
import Derived.Test.YtadllffeoibelaaGreatS29
import Derived.ShutString
import Derived.ChangeOld
open Go.Proofs.Tryz
namespace Go.Proofs.YtadllffeoibelaaGreat
set_option maxRecDepth 100000
set_option maxHeartbeats 32000000
set_option linter.all false
namespace gameAccounts
theorem j1:(Rows.gameAccountsRow.wf (OpenSpec.ofChange Rows.gameAccountsSpec))=true:=by kernel_rfl
theorem j2:(laidOutB prog)=true:=X4
theorem j3:(mapsRowed prog)=true:=X5
theorem j4:(f10.params.all (prog.readableRec ·))=true:=by kernel_rfl
theorem j5:(namedTie prog Rows.gameAccountsRow.named Rows.gameAccountsSpec.vars)=true:=by kernel_rfl
theorem j6:((Rows.gameAccountsRow.stops==[]))=true:=by kernel_rfl
theorem j7:((prog.stops==[]))=true:=by kernel_rfl
theorem j8:((Rows.gameAccountsRow.knobs==[]))=true:=by kernel_rfl
theorem j9:((prog.stopKnobs==[]))=true:=by kernel_rfl
theorem j10:((Rows.gameAccountsRow.inPlace==prog.inPlace 10))=true:=by kernel_rfl
theorem j11:((Rows.gameAccountsRow.unfollowed==prog.unfollowed 10))=true:=by kernel_rfl
theorem j12:((Rows.gameAccountsRow.recurses==prog.recurses 10))=true:=by kernel_rfl
theorem j13:((Rows.gameAccountsRow.named==prog.varsNamed 10))=true:=by kernel_rfl
theorem j14:((Rows.gameAccountsRow.maps==(f10.params.toList++Rows.gameAccountsSpec.plain.varTypes prog).any (prog.mapsRec ·)))=true:=by kernel_rfl
theorem j15:((Rows.gameAccountsRow.ifaces==(f10.params.toList++Rows.gameAccountsSpec.plain.varTypes prog).any (prog.ifacesRec ·)))=true:=by kernel_rfl
theorem j16:((Rows.gameAccountsRow.mapsOut==prog.mapsAmong f10.resultTypes.toList))=true:=by kernel_rfl
theorem j17:((Rows.gameAccountsRow.loops==(f10.params.toList++Rows.gameAccountsSpec.plain.varTypes prog).any (prog.loopsFrom ·)))=true:=by kernel_rfl
theorem j18:((Rows.gameAccountsRow.wideKeys==(f10.params.toList++Rows.gameAccountsSpec.plain.varTypes prog++f10.resultTypes.toList).any (prog.wideKeysFrom ·)))=true:=by kernel_rfl
theorem j19:(Rows.gameAccountsSpec.vars.all (prog.varReadable ·))=true:=by kernel_rfl
theorem j20:(f10.resultTypes.all (fun t=>prog.readableRec t&&decide (t<prog.types.size)))=true:=by kernel_rfl
theorem j21:((Rows.gameAccountsRow.ifacesOut==f10.resultTypes.toList.any (prog.ifacesRec ·)))=true:=by kernel_rfl
theorem j22:((Rows.gameAccountsRow.loopsOut==f10.resultTypes.toList.any (prog.loopsFrom ·)))=true:=by kernel_rfl
theorem j23:((Rows.gameAccountsRow.plainKeys==prog.plainKeys))=true:=by kernel_rfl
theorem j24:(Rows.gameAccountsRow.shortTexts.isNone)=true:=by kernel_rfl
theorem j25:(prog.stopsHeard)=true:=Wz
theorem j26:(prog.mayEnter)=true:=Ww
theorem j27:((Rows.gameAccountsRow.lifted==prog.liftsFinal))=true:=Wx
theorem j28:((prog.make==some Rows.gameAccountsRow.make))=true:=Wy
theorem j29:((Rows.gameAccountsRow.kinds==(if Rows.gameAccountsRow.domain.isEmpty then[]else f10.params.toList.map fun t=>match prog.underlying t with |some (.int k)=>some k|_=>none)))=true:=by kernel_rfl
theorem j30:((Rows.gameAccountsRow.pinned==Rows.gameAccountsRow.pinnedBy))=true:=by kernel_rfl
theorem j31:((Rows.gameAccountsRow.veiled==(f10.params.toList++Rows.gameAccountsSpec.plain.varTypes prog++f10.resultTypes.toList).any (prog.veiledRec ·)))=true:=by kernel_rfl
theorem j32:(Rows.gameAccountsRow.veiledFits prog f10.params.toList (f10.params.toList++Rows.gameAccountsSpec.plain.varTypes prog++f10.resultTypes.toList))=true:=by kernel_rfl
theorem closed:joinedFacts prog 10 f10 Rows.gameAccountsSpec Rows.gameAccountsRow=true:=by
 unfold joinedFacts;exact CI (CI (CI (CI (CI (CI (CI (CI (CI (CI (CI (CI (CI (CI (CI (CI (CI (CI (CI (CI (CI (CI (CI (CI (CI (CI (CI (CI (CI (CI (CI (j1) j2) j3) j4) j5) j6) j7) j8) j9) j10) j11) j12) j13) j14) j15) j16) j17) j18) j19) j20) j21) j22) j23) j24) j25) j26) j27) j28) j29) j30) j31) j32
end gameAccounts
namespace gameAccounts
open Go.ChangeShapes Go.WideShapes Go.ChangeAt Go.RowKit
theorem own:ownKnob prog.godebug=none:=by kernel_rfl
theorem laidOut:laidOutB prog=true:=by kernel_rfl
theorem lifted(os:Os)(started:os.Started)(H:Type)(enc:TypeId×Value->H):ReturnsInHanded {} checked os 10 .any (Rows.gameAccountsSpec.pre6 enc prog f10 Rows.gameAccountsRow.domain false) (Rows.gameAccountsSpec.post enc prog f10 false true false false):=by
 refine returnsInHanded_of_change_sized (C:=checked) own started (by kernel_rfl) func10
  (ChangeSpec.witness6 (enc:=enc) (C:=checked) false ⟨#[],#[.agg #[.int .i64 0,.int .i64 0,.int .i64 0,.int .u8 0,.int .u8 0,.int .u8 0,.int .u8 0,.int .u8 0,.int .u8 0,.int .u8 0,.int .u8 0],.slice none 0 0],[]⟩ 8 (by kernel_rfl) (by kernel_rfl) (by kernel_rfl) (by kernel_rfl)) ?_
 intro W base args ds gs before hEQ hW hcnd hsz0 _;have hEn:∀(j:Nat) t v,f10.params[j]? =some t->args[j]? =some v->Value.okWide prog W .any base t v:=hEQ;have hW':=hW;obtain⟨p,q,hA0,hV,rfl,hfz,hnd⟩:=hW;have hA:DataW.TrodAll enc prog W 0 (fun _=>true) true f10.params.toList args.toList ds p:=hA0;have hsz:(DataW.weightsEach prog (f10.params.toList++Rows.gameAccountsSpec.plain.varTypes prog) (ds++gs)).all (·<=reachBytes)=true:=hsz0;rw[params10]at hA hEn hsz;obtain⟨v0,vs0,d0,ds0,p0,q0,hargs,rfl,rfl,h0,r0⟩:=trodAll_cons hA;obtain⟨v1,vs1,d1,ds1,p1,q1,ha1,rfl,rfl,h1,r1⟩:=trodAll_cons r0;subst ha1;obtain⟨rfl,rfl,rfl⟩:=trodAll_nil r1;obtain rfl:args=#[v0,v1]:=by cases args;simp_all
 obtain⟨rfl,rfl⟩:=trodVars_none hV;have hwt:∀k∈DataW.weightsEach prog ([26,27]++Rows.gameAccountsSpec.plain.varTypes prog) ([d0,d1]++[]),k<=reachBytes:=fun k hk=>by simpa using List.all_eq_true.1 hsz k hk
 have k0:=h0;have lt0:∀x∈p0,x.block<W.heap.size:=by obtain⟨m,hm⟩:=k0;exact DataW.trod_lt m _ _ _ hm
 obtain⟨s0,hv0⟩:∃s:Cfg,v0.cells.toList=s.cells.toList:=by
  obtain⟨fuel,hf⟩:=h0;exact UL hf
 obtain⟨cs0,hFp,_⟩:=okWide_struct underlying26 (hEn 0 26 v0 rfl rfl);obtain rfl:=Xs hFp hv0;clear hFp hv0;have k1:=h1;have lt1:∀x∈p1,x.block<W.heap.size:=by obtain⟨m,hm⟩:=k1;exact DataW.trod_lt m _ _ _ hm
 obtain⟨A1,l1,cap1,hv1,hr1,hok1,hl1,hm1,_⟩:∃(A:Option Addr) (l:List Stp) (cap:Nat),v1.cells.toList=[.slice A l.length cap]/\Rd W W.heap.size A (l.flatMap stc)/\(∀a∈l,a.vote.ok)/\l.length<=cap/\cap<=maxLen/\l.length*prog.bytesOf 48<=reachBytes:=by
  obtain⟨fuel,hf⟩:=h1;exact SI stc 25 (fun a=>a.vote.ok) underlying27 Q9 (by omega) (fun n cs x h _=>Pu h) (fun _=>rfl) hf (J4 hwt (j:=1) (t:=27) rfl rfl)
 obtain⟨a1,len1,c1,rfl⟩:=okWide_slice underlying27 (hEn 1 27 v1 rfl rfl);simp[Value.cells]at hv1;obtain⟨rfl,rfl,rfl⟩:=hv1;clear hA0 hEQ;refine(Ps s0 a1 l1.length c1 l1 W rfl hr1 hok1).mono fun e W' ⟨he,bel⟩=>?_
 subst he;exact⟨_,rfl,_,_,_,[],_,[],hW',trodAll_mk1 (shut_bool underlying4 _),(trodAll_cons_mk (Below.trod laidOut (by kernel_rfl) (of_decide_eq_true (by kernel_rfl)) k0 bel lt0) (trodAll_cons_mk (Below.trod laidOut (by kernel_rfl) (of_decide_eq_true (by kernel_rfl)) k1 bel lt1) trodAll_mk0)),rfl,bel.frame _,fun h=>by cases h⟩
theorem over:Rows.gameAccountsRow.holds Tryz.pinned (OpenSpec.ofChange Rows.gameAccountsSpec):=
 OpenClaim.holds_of_wide 10 f10 rfl rfl rfl rfl rfl rfl rfl ⟨rfl,rfl,rfl,rfl,rfl⟩ rfl rfl rfl rfl rfl (by kernel_rfl) func10 closed
  (of_decide_eq_true (by kernel_rfl)) (by unfold Func.isWrapper;first|(rw[if_pos (by decide+kernel)];kernel_rfl)|(rw[if_neg (by decide+kernel)];exact⟨rfl,rfl⟩))
  (fun os started H enc _=>lifted os started H enc)
theorem proved:Rows.GameAccountsSaid:=over
end gameAccounts
end Go.Proofs.YtadllffeoibelaaGreat
