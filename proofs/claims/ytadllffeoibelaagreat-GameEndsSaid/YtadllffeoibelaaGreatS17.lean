/-
  Parts of the proof. No condition.
-/
import Derived.Test.YtadllffeoibelaaGreatS16
open Go.Proofs.Tryz
namespace Go.Proofs.YtadllffeoibelaaGreat
set_option maxRecDepth 100000
set_option maxHeartbeats 32000000
set_option linter.all false
section
open Go.RowKit
theorem UM:Fd prog 24 Nm.val where
 desc:=⟨_,underlying24,fun _ _=>rfl⟩
 check b k w:=KF b 9998 k w
 eq a b w:=EW a b w 9998
 bits k:=G7 9999 _ (by intro v hv;simp at hv;rcases hv with rfl|rfl|rfl|rfl|rfl|rfl|rfl|rfl <;> simp[Instr.sameBits])
theorem IY{o:Oper}{a:Act}(x y:Operand)(ho:o.op= .lookup 288 x y false)(m:Nat)(k:Nm)(hx:a.eval x= .map (some m))(hy:a.eval y=k.val){w:World}{kl:List (Nm×Value)}(h:Bj Nm.val w m kl):(execOp a.eval o).run prog w= .ok (.value ((BR k kl).getD (.int .i64 0))) w:=by
 have hr:=h.is.look UM underlying288 (.int .i64 0) (GM w) k false;unfold execOp;rw[ho];simp only[hx,hy];simp only[Bool.false_eq_true,if_false]at hr;simp[hr,Result.andThen]
theorem Oh{op:Oper}{a:Act}{K:Act->World->Prop}{Q:Exit->Act->World->Prop}(x y:Operand)(ho:op.op= .mapEntry 288 x y)(m:Nat)(k:Nm)(hx:a.eval x= .map (some m))(hy:a.eval y=k.val){w:World}{kl:List (Nm×Value)}(h:Bj Nm.val w m kl)(hK:∀(w':World) (b:Nat) (v:Value) (kl':List (Nm×Value)),KR Nm.val w' m kl' k b->(∀k',BR k' kl'=if k'=k then some ((BR k kl).getD (.int .i64 0))else BR k' kl)->Upd k (.int .i64 0) kl kl'->kl'.length<=kl.length+1->w.grownBy w' (some m)->w'.heap.size=w.heap.size->K (a.put op.dst (.tuple #[v,goInt (b:Int)])) w'):op.wp prog a w K Q:=by
 obtain⟨w',b,v,kl',hr,h1,h2,h3,h4,h5,h6⟩:=h.entryX UM underlying288 (.int .i64 0) GM k;refine B9 (w':=w') (.tuple #[v,goInt (b:Int)]) ?_ (hK w' b v kl' h1 h2 h3 h4 h5 h6);unfold execOp;rw[ho];simp only[hx,hy];simp[hr,Result.andThen]
theorem Oi{op:Oper}{a:Act}{K:Act->World->Prop}{Q:Exit->Act->World->Prop}(x y z:Operand)(ho:op.op= .entryStore 288 x y z)(m b:Nat)(k:Nm)(v:Value)(hx:a.eval x= .map (some m))(hy:a.eval y=goInt (b:Int))(hz:a.eval z=v){w:World}{kl:List (Nm×Value)}(h:KR Nm.val w m kl k b)(hK:∀(w':World) (kl':List (Nm×Value)),kl'=CJ k v kl->Bj Nm.val w' m kl'->Upd k v kl kl'->kl'.length=kl.length->w.grownBy w' (some m)->w'.heap.size=w.heap.size->K (a.put op.dst undef) w'):op.wp prog a w K Q:=by
 obtain⟨w',hr,h1,h2,h3,h4,h5⟩:=h.store (P:=prog) 288 v;refine LT (w':=w') ?_ (hK w' _ rfl h1 h2 h3 h4 h5);unfold execOp;rw[ho];simp only[hx,hy,hz];simp[hr,Result.andThen]
end
section
open Go.RowKit Go.Shelf
attribute [local go_sem ↓] Go.wp_at_zero Go.wp_at_succ Aq Au Av Aw
attribute [local go_sem] BE BL BM BN AR AX AU
def pK(kd:Int)(k:Nm)(v:Vt):Bool:=decide (v.kind=kd)&&decide (v.value=k)
def BrB(kd:Int)(O:List Vt)(kl:List (Nm×Value)):Prop:=
 (∀k,(BR k kl).getD (.int .i64 0)= .int .i64 ((BX (pK kd k) O:Nat):Int))/\
 (∀q∈kl,∃S:Nat,q.2= .int .i64 (S:Int)/\S<1024/\∀i,S.testBit i=true->(BX (pK kd q.1) O).testBit i=true)/\kl.length<=O.length
theorem BrB.nil(kd:Int):BrB kd [] []:=⟨fun k=>rfl,fun q h=>(by cases h),AB _⟩
theorem GN{α:Type}{l:List α}{i:Nat}{x:α}(hx:l[i]? =some x):l.take (i+1)=l.take i++[x]:=by
 rw[Ah,hx,BF]
theorem Us(pr:Vt->Bool)(l:List Vt)(x:Vt)(i:Nat)(h:(BX pr l).testBit i=true):(BX pr (l++[x])).testBit i=true:=by
 obtain⟨v,hv,h1,h2⟩:=Cg.1 h;exact Cg.2 ⟨v,BB _ hv,h1,h2⟩
theorem BrB.skip{kd:Int}{O:List Vt}{i:Nat}{x:Vt}{kl:List (Nm×Value)}(h:BrB kd (O.take i) kl)(hx:O[i]? =some x)(hn:¬x.kind=kd):BrB kd (O.take (i+1)) kl:=by
 rw[GN hx];have e:∀k,BX (pK kd k) (O.take i++[x])=BX (pK kd k) (O.take i):=fun k=>by
  rw[GX,if_neg (by simp[pK,hn])]
 refine⟨fun k=>by rw[e];exact h.1 k,fun q hq=>by rw[e];exact h.2.1 q hq,?_⟩;have:=h.2.2;rw[AI];omega
theorem BrB.step{kd:Int}{O:List Vt}{i:Nat}{x:Vt}{kl kl5 kl6:List (Nm×Value)}{S sn:Nat}{k:Nm}(hkk:k=x.value)(h:BrB kd (O.take i) kl)(hx:O[i]? =some x)(hsn:x.signer=(sn:Int))(hs9:sn<=9)(hK:x.kind=kd)(hS:S=BX (pK kd k) (O.take i))(yh:S<1024)(h6:kl6=CJ k (.int .i64 ((S|||2^sn:Nat):Int)) kl5)(h5:∀k',BR k' kl5=if k'=k then some ((BR k kl).getD (.int .i64 0))else BR k' kl)(hU5:Upd k (.int .i64 0) kl kl5)(hU6:Upd k (.int .i64 ((S|||2^sn:Nat):Int)) kl5 kl6)(hl5:kl5.length<=kl.length+1)(hl6:kl6.length=kl5.length):BrB kd (O.take (i+1)) kl6:=by
 have e:BX (pK kd k) (O.take i++[x])=S|||2^sn:=by
  rw[GX,if_pos (by simp[pK,hK,hkk]),<-hS,hsn];rfl
 have e':∀k',¬k'=k->BX (pK kd k') (O.take i++[x])=BX (pK kd k') (O.take i):=fun k' hk'=>by
  rw[GX,if_neg (by simp[pK,hK,<-hkk];exact fun h=>hk' h.symm)]
 rw[GN hx];refine⟨fun k'=>?_,fun q hq=>?_,?_⟩
 ·rw[h6,Cs];by_cases hk':k'=k
  ·rw[if_pos hk',hk',e];rfl
  ·rw[if_neg hk',h5,if_neg hk',e' k' hk'];exact h.1 k'
 ·rcases hU6 q hq with hq|rfl
  ·rcases hU5 q hq with hq|rfl
   ·obtain⟨S',h1,h2,h3⟩:=h.2.1 q hq;exact⟨S',h1,h2,fun i hi=>Us _ _ _ _ (h3 i hi)⟩
   ·exact⟨0,rfl,by decide,fun i hi=>by simp at hi⟩
  ·refine⟨_,rfl,JL S sn yh hs9,fun i hi=>?_⟩;rw[e];exact hi
 ·have:=h.2.2;rw[hl6,AI,List.length_singleton];omega
def Oj(M:Int)(p:Nm)(s:Nat)(kd:Int)(l:List Vt)(w:World)(e:Ending)(w':World):Prop:=
 ∃(m:Nat) (O:List Vt) (kl:List (Nm×Value)),e= .returned (.map (some m))/\D0 M p (s:Int) (slB s l) O/\O.length<=l.length/\BrB kd O kl/\Bj Nm.val w' m kl/\w.heap.size<=m/\Wx w w'
def Ut(kd:Int)(O:List Vt)(m:Nat)(w:World)(iv:Value)(wr:World):Prop:=
 ∃(i:Nat) (kl:List (Nm×Value)),iv= .int .i64 (i:Int)/\i<=O.length/\BrB kd (O.take i) kl/\Bj Nm.val wr m kl/\w.grownBy wr (some m)
theorem Fp(M:Int)(p:Nm)(A:Option Addr)(n c:Nat)(l:List Vt)(s:Nat)(kd:Int)(w0:World)(hn:l.length=n)(hr:Rd w0 w0.heap.size A (l.flatMap vtc))(hsm:n<=1000000)(hl:∀v∈l,AW v)(hs:(xOf M).testBit s=true):Calls prog 250 #[.int .i64 M,p.val,.slice A n c,.int .i64 (s:Int),.int .i64 kd] w0 (Oj M p s kd l w0):=by
 obtain⟨w,hw⟩:=Wr (w0.alloc (.cells p.cells 24));have hb0:Wx w0 w:=by rw[hw];exact(AC _ _).alloc (AB _) _
 have hBq:Blk w w0.heap.size 24 p.cells:=by rw[hw];exact Blk.new w0 _ _
 obtain⟨q,hq⟩:=Wr w0.heap.size;obtain⟨m,hm⟩:=Wr w.heap.size;obtain⟨wm,hwm⟩:=Wr (w.alloc (.map #[] 0));have hmp:Bj Nm.val wm m []:=by rw[hwm,hm];exact Bj.new Nm.val w
 have hbm:Wx w wm:=by rw[hwm];exact(AC _ _).alloc (AB _) _
 have hb0m:Wx w0 wm:=hb0.trans (hbm.mono hb0.size);have hmm:m<wm.heap.size:=hmp.is.lt;have hm0:w0.heap.size<=m:=by rw[hm];exact hb0.size
 rw[<-hq]at hBq;have hqw:q<w.heap.size:=hBq.lt;have y1:AK wm q 0 8=some p.cells:=(hBq.below hbm hqw).row 8 rfl;have HSl:=AA (Py M p A n c l s wm hn ((hr.below hb0m).more hb0m.size) hsm hl hs);have HN:=AA hn;have HL:=AA hl;have HW:=AA hw;have HWm:=AA hwm;have HQ:=AA hq;have HM:=AA hm;have HMp:=AA hmp;have HM0:=AA hm0;have hmk:∀W:World,(Instr.makeMap 288 none).run prog W= .ok (.map (some W.heap.size)) (W.alloc (.map #[] 0)):=fun W=>rfl
 clear hn hr hl hs hw hBq hq hwm hm hmp hqw hm0;go_enter func250,ntmps250;go_upto_region 1 with fail
 simp only[<-HW.out,<-HQ.out];go_upto_region 2 with fail
 simp only[<-HWm.out,<-HM.out];go_wp2_with fail
 refine HSl.out.mono ?_;rintro en w3 ⟨v3,O,rfl,hO,hOn,xC,hb3⟩;have HO:=AA hO;have hDS:Hid (Bj Nm.val w3 m []):=HMp.out.below hb3 hmm;obtain⟨A3,c3,rfl,hR3⟩:∃A1 c1,v3= .slice A1 O.length c1/\(O.flatMap vtc=[]∨∃g,A1=some ⟨g,0,none⟩/\wm.heap.size<=g/\∃T,Blk w3 g 46 (O.flatMap vtc++T).toArray):=by
  rcases Fm xC with⟨rfl,h0,h1⟩|⟨g,cap,T,rfl,h1,h2,_⟩
  ·exact⟨none,0,by rw[h0],.inl h1⟩
  ·exact⟨_,cap,rfl,.inr ⟨g,rfl,h1,T,h2⟩⟩
 obtain⟨nO,hnO⟩:=Wr O.length;rw[<-hnO]at hOn ⊢;have HNO:Hid (O.length=nO):=hnO.symm;have HR3:=AA hR3;clear hO xC hR3 hnO HSl HMp y1;go_wp2
 go_loopw [21] (fun iv wr=>Ut kd O m w3 iv wr) (fun iv _=>nO-(intOf iv).toNat)
 case atStart=>exact⟨0,[],rfl,Nat.zero_le _,BrB.nil kd,hDS.out,Al w3 m⟩
 case round=>
  obtain⟨i2,kl,rfl,hBJ,hbr,zY,hgr⟩:=hrel;rw[HNO.out]at hBJ;have HBr:=AA hbr;have yq:=AA zY;have HGr:=AA hgr;clear hbr zY hgr;by_cases hi2:i2<nO
  ·have di2:=Wu (show i2<nO by omega)
   obtain⟨x,hx⟩:∃x,O[i2]? =some x:=⟨_,AE (by rw[HNO.out];exact hi2)⟩;obtain⟨g,rfl,hgm,T,hT⟩:∃g,A3=some ⟨g,0,none⟩/\wm.heap.size<=g/\∃T,Blk w3 g 46 (O.flatMap vtc++T).toArray:=by
    rcases HR3.out with h|h
    ·have:=AY vtc 22 O (CI O);rw[h,HNO.out]at this;simp at this;omega
    ·exact h
   have hTr:Blk wr g 46 (O.flatMap vtc++T).toArray:=hT.kept HGr.out (by intro e;injection e with e;omega);have x1:AK wr g (i2*22) 22=some x.cells:=Bv.vt (T:=T) (w0:=wr) ⟨hTr,Al wr g⟩ hx;have HXi:=AA hx;have HXv:=AA (HO.out.1.2 x (AN hx));have hmw:m<wr.heap.size:=yq.out.is.lt;clear hx hTr hT;go_upto_region 5 with(refine AJ rfl 46 (.tmp 13) (.tmp 24) rfl wr.heap.size x.cells rfl rfl 46 Bk.cells (Blk.new wr _ _) (by rfl) (by kernel_rfl) (fun u hu=>BH x hu) ?_;intro w4 hB4 hg4 xb)
   have zF:Hid (w3.grownBy w4 (some m)):=(Bm HGr.out _).andThen hg4 (Wt (.inl HGr.out.size));have yA:Hid (Bj Nm.val w4 m kl):=(yq.out.alloc _).kept hg4 (by intro e;injection e with e;omega);obtain⟨z,hz⟩:=Wr wr.heap.size;rw[<-hz]at hB4 ⊢;have hzm:z≠m:=by omega
   have hAX:m<w4.heap.size:=yA.out.is.lt;have x4:w4.cell? ⟨z,0,none⟩=some (.int .i64 x.kind):=hB4.cell 0;have HB4:=AA hB4;clear hg4 xb x1 hz yq HGr hmw hB4;try go_frame
   by_cases h1:x.kind=kd
   ·have e1:(x.kind==kd)=true:=by rw[h1];exact beq_self_eq_true _
    have HK:=AA h1;clear h1;obtain⟨sn,yw,hsn⟩:∃sn:Nat,sn<=9/\x.signer=(sn:Int):=by
     obtain⟨hv,_⟩:=HXv.out.2.1;have h9:=hv.2.1;exact⟨x.signer.toNat,by omega,by omega⟩
    obtain⟨k,hk⟩:∃k:Nm,k=x.value:=⟨_,rfl⟩;obtain⟨S,hS⟩:∃S:Nat,S=BX (pK kd k) (O.take i2):=⟨_,rfl⟩;have yh:S<1024:=by
     rw[hS];refine Fa (fun v hv=>?_);obtain⟨hv,_⟩:=(HO.out.1.2 v (List.mem_of_mem_take hv)).2.1;exact hv.2.1
    have HKk:=AA hk;have HSn:=AA hsn;have HS:=AA hS;have HLk:Hid ((BR k kl).getD (.int .i64 0)= .int .i64 (S:Int)):=by unfold Hid;rw[hS];exact HBr.out.1 k
    have xq:Hid (∀V,Blk V z 46 x.cells->AK V z 14 8=some x.value.cells/\V.cell? ⟨z,4,none⟩=some (.int .i64 (sn:Int))):=fun V hV=>⟨x.row_value hV,by rw[<-hsn];exact hV.cell 4⟩
    clear hk hsn hS;go_wp2_with fail
    refine rgD (fun V=>AK V z 14 8=some x.value.cells/\V.cell? ⟨z,4,none⟩=some (.int .i64 (sn:Int))) (xq.out _ HB4.out.drew) fun _=>?_
    iterate 3 (refine tkA ?_;go_frame)
    refine tkD 33 4 ?_;go_frame;refine tkD 34 5 ?_;go_frame;refine tkV 35 6 (.int .i64 ((2^sn:Nat):Int)) (fun wq _=>Hb (.tmp 34) sn rfl rfl yw wq) ?_;go_frame;refine wpAnyH_ready (rs:=[3,8]) (by kernel_rfl) (by simp) ?_;refine AllReadyH.cons rfl (fun K hK=>?_) (AllReadyH.cons rfl (fun K hK=>?_) AllReadyH.nil)
    ·rw[if_pos (by rfl)];refine B9 (.int .i64 (S:Int)) ((IY (.tmp 29) (.tmp 31) rfl m k rfl (by rw[HKk.out];rfl) (w:=w4.drew) (yA.out.below (AC w4.heap.size w4).drew hAX)).trans (by rw[HLk.out])) ?_;refine hK.out _ _ (xq.out _ HB4.out.drew) (fun _=>?_);clear hK K;try go_frame
     refine tkV 36 7 (.int .i64 ((S|||2^sn:Nat):Int)) (fun wq _=>Hc (.tmp 32) (.tmp 35) S sn rfl rfl rfl yh yw wq) ?_;go_frame;refine rd1 8 fun K hK=>?_
     rw[if_pos (by rfl)];refine Oh (.tmp 29) (.tmp 31) rfl m k rfl (by rw[HKk.out];rfl) (w:=w4.drew) (yA.out.below (AC w4.heap.size w4).drew hAX) ?_;intro w5 b5 v5 kl5 hE5 hA5 hU5 hl5 hg5 hs5;have hGO:Hid ((BR k kl5).getD (.int .i64 0)= .int .i64 (S:Int)):=by(unfold Hid;rw[hA5 k,if_pos rfl,Option.getD_some];exact HLk.out)
     have HA5:=AA hA5;have HU5:=AA hU5;clear hA5 hU5;have HB5:Hid (Blk w5 z 46 x.cells):=(HB4.out.drew).kept hg5 (by intro e;injection e with e;exact hzm e);have HE5:=AA hE5;clear hE5;refine hK.out _ _ (xq.out _ HB5.out) (fun _=>?_);clear hK K;try go_frame
     refine tkD 38 9 ?_;go_frame;refine rd1 10 fun K hK=>?_
     rw[if_pos (by rfl)];refine Oi (.tmp 29) (.tmp 38) (.tmp 36) rfl m b5 k (.int .i64 ((S|||2^sn:Nat):Int)) rfl rfl rfl (w:=w5) HE5.out ?_;intro w6 kl6 hK6 hM6 hU6 hl6 hg6 hs6;have HK6:=AA hK6;have HU6:=AA hU6;clear hK6 hU6;have HB6:Hid (Blk w6 z 46 x.cells):=HB5.out.kept hg6 (by intro e;injection e with e;exact hzm e);have HM6:=AA hM6;clear hM6;refine hK.out _ _ (xq.out _ HB6.out) (fun _=>?_);clear hK K;try go_frame
     refine dnD ?_;have hBO:w3.grownBy w6 (some m):=((BZ zF.out).trans hg5).trans hg6;have hEY:Hid (BrB kd (O.take (i2+1)) kl6):=BrB.step HKk.out HBr.out HXi.out HSn.out yw HK.out HS.out yh HK6.out HA5.out HU5.out HU6.out hl5 hl6;go_wp2_with fail
     go_roundw
     case rel=>exact⟨i2+1,kl6,by go_num,by rw[HNO.out];omega,hEY.out,HM6.out,hBO⟩
     case measure=>simp[intOf];omega
    ·rw[if_pos (by rfl)];refine Oh (.tmp 29) (.tmp 31) rfl m k rfl (by rw[HKk.out];rfl) (w:=w4.drew) (yA.out.below (AC w4.heap.size w4).drew hAX) ?_;intro w5 b5 v5 kl5 hE5 hA5 hU5 hl5 hg5 hs5;have hGO:Hid ((BR k kl5).getD (.int .i64 0)= .int .i64 (S:Int)):=by(unfold Hid;rw[hA5 k,if_pos rfl,Option.getD_some];exact HLk.out)
     have HA5:=AA hA5;have HU5:=AA hU5;clear hA5 hU5;have HB5:Hid (Blk w5 z 46 x.cells):=(HB4.out.drew).kept hg5 (by intro e;injection e with e;exact hzm e);have HE5:=AA hE5;clear hE5;refine hK.out _ _ (xq.out _ HB5.out) (fun _=>?_);clear hK K;try go_frame
     refine tkD 38 9 ?_;go_frame;refine rd1 3 fun K hK=>?_
     rw[if_pos (by rfl)];refine B9 (.int .i64 (S:Int)) ((IY (.tmp 29) (.tmp 31) rfl m k rfl (by rw[HKk.out];rfl) (w:=w5) HE5.out.isB).trans (by rw[hGO.out])) ?_;refine hK.out _ _ (xq.out _ HB5.out) (fun _=>?_);clear hK K;try go_frame
     refine tkV 36 7 (.int .i64 ((S|||2^sn:Nat):Int)) (fun wq _=>Hc (.tmp 32) (.tmp 35) S sn rfl rfl rfl yh yw wq) ?_;go_frame;refine rd1 10 fun K hK=>?_
     rw[if_pos (by rfl)];refine Oi (.tmp 29) (.tmp 38) (.tmp 36) rfl m b5 k (.int .i64 ((S|||2^sn:Nat):Int)) rfl rfl rfl (w:=w5) HE5.out ?_;intro w6 kl6 hK6 hM6 hU6 hl6 hg6 hs6;have HK6:=AA hK6;have HU6:=AA hU6;clear hK6 hU6;have HB6:Hid (Blk w6 z 46 x.cells):=HB5.out.kept hg6 (by intro e;injection e with e;exact hzm e);have HM6:=AA hM6;clear hM6;refine hK.out _ _ (xq.out _ HB6.out) (fun _=>?_);clear hK K;try go_frame
     refine dnD ?_;have hBO:w3.grownBy w6 (some m):=((BZ zF.out).trans hg5).trans hg6;have hEY:Hid (BrB kd (O.take (i2+1)) kl6):=BrB.step HKk.out HBr.out HXi.out HSn.out yw HK.out HS.out yh HK6.out HA5.out HU5.out HU6.out hl5 hl6;go_wp2_with fail
     go_roundw
     case rel=>exact⟨i2+1,kl6,by go_num,by rw[HNO.out];omega,hEY.out,HM6.out,hBO⟩
     case measure=>simp[intOf];omega
   ·have e1:(x.kind==kd)=false:=by simpa using h1
    have HK:=AA h1;clear h1;go_wp2;go_roundw
    case rel=>exact⟨i2+1,kl,by go_num,by rw[HNO.out];omega,HBr.out.skip HXi.out HK.out,yA.out,zF.out⟩
    case measure=>simp[intOf];omega
  ·have di2:=Wv (show nO<=i2 by omega)
   have yF:BrB kd O kl:=by
    have h:=HBr.out;rwa[AT (by rw[HNO.out];omega)]at h
   have yT:=AA yF;clear yF;go_wp2;go_ret;exact⟨m,O,kl,rfl,HO.out,by rw[HNO.out,HN.out];exact hOn,yT.out,yq.out,HM0.out,(hb0m.trans (hb3.mono hb0m.size)).grown HGr.out (AG hb0m.size hb3.size) (Wt HM0.out)⟩
end
section
open Go.RowKit Go.Shelf Go.Sort
def Ng(LF n:Nat):Nat:=if n=0 then 170 else if n=1 then 171 else LF
structure SlK (t e:TypeId)(m ke kS LF:Nat):Prop where
 info:∃i,prog.info? t=some i/\i.desc= .slice e
 packed:prog.packed t=false
 elem:∃ie,prog.info? e=some ie/\ie.size=m/\∀n,2<=n->Lib.swapperK n ie ke=kS
 big:2<kS
 find : prog.funcs.findIdx? (·.name == "internal/reflectlite" ++ ".Swapper$" ++ toString kS) = some LF
 kind:∀w,(Extern.Rtype.kind e).run prog w= .ok ke w
 agg:∀w,(isAgg e).run prog w= .ok true w
 ext:∃gS,∀args W,(callFunc LF args).run prog W=((Extern.ReflectliteSwapper.swap gS args).run prog W).andThen fun v w'=>.ok (.value v) w'
theorem Jd {ie : TypeInfo} {t e : TypeId} {m ke kS LF : Nat} (S : SlK t e m ke kS LF) (h4 : ∀ n,2≤n→Lib.swapperK n ie ke = kS) (n : Nat) : prog.funcs.findIdx? (·.name == "internal/reflectlite" ++ ".Swapper$" ++ toString (Lib.swapperK n ie ke)) = some (Ng LF n) := by
 rcases Nat.lt_or_ge n 2 with h|h
 ·rcases Nat.eq_zero_or_pos n with h0|h0
  ·subst h0;kernel_rfl
  ·obtain rfl:n=1:=by omega
   kernel_rfl
 ·rw[h4 n h];unfold Ng;rw[if_neg (by omega),if_neg (by omega)];exact S.find
theorem Nh{α:Type}[Inhabited α]{F:Nat}{lb:Array Value}{lt:α->α->Bool}{t e:TypeId}{m ke kS LF:Nat}(S:SlK t e m ke kS LF)(c:Bc α)(hl:∀x,(c.enc x).length=m)(hm0:0<m)(h1:∀x,∀v∈c.enc x,v.oneCell'=true)(eg:∀args w,(callFunc F args).run prog w= .ok (.enter F args) w)(l:List α)(g n cap:Nat)(w:World)(hle:Fi c e w g l lt F lb)(xZ:Blk w g e (l.flatMap c.enc++c.tail).toArray)(hn:l.length=n)(hsm:n<=1000000):Calls prog 116 #[.iface t (.slice (some ⟨g,0,none⟩) n cap),.func (.func F) #[] lb] w fun e' w'=>e'= .returned (.tuple #[])/\Az c e g l w w':=by
 obtain⟨i,hi,hd⟩:=S.info;obtain⟨ie,h2,h3,h4⟩:=S.elem;have xP:Az c e g l w (sliceWorld prog I0 t (some ⟨g,0,none⟩) n cap w):=⟨l,((Bv.self xZ).alloc _).alloc _,List.Perm.refl _⟩;obtain⟨gS,hext⟩:=S.ext;have H9:Lit c.enc m e LF gS:=⟨hext,⟨ie,h2,h3⟩,S.agg,hl,h1⟩;refine Any.sort_Slice_of_pdq Gs t e i ie hi hd S.packed h2 ke S.kind (some ⟨g,0,none⟩) n cap (by omega) (Ng LF n) (Jd S h4 n) (.func F) #[] lb w (fun w'=>Az c e g l w w') ?_;by_cases h:2<=n
 ·have e1:Ng LF n=LF:=by unfold Ng;rw[if_neg (by omega),if_neg (by omega)]
  have e2:sliceBound prog e ie ke (some ⟨g,0,none⟩) n cap=#[.slice (some ⟨g,0,none⟩) n cap,typeHandle prog e]:=by unfold sliceBound;rw[h4 n h,if_neg (by have:=S.big;omega)]
  rw[e1,e2];have HS:Srt c e w g n LF F #[.slice (some ⟨g,0,none⟩) n cap,typeHandle prog e] lb lt l:=⟨eg,hle,I1 n cap H9 e w,hn,hsm⟩;exact(JC HS (Pd n cap H9 hm0 e w F lb l hn hsm) n 0 n (Lib.bitLen n) _ xP (Nat.zero_le _) (AB _) (by omega) (by have:=GJ n;omega)).mono fun e' w' h=>⟨h.1,xP.trans h.2⟩
 ·have HS:Srt c e w g n (Ng LF n) F (sliceBound prog e ie ke (some ⟨g,0,none⟩) n cap) lb lt l:=⟨eg,hle,fun _ _ _ _ _ _ _ _ h'=>absurd h' h,hn,hsm⟩;exact(JC HS (fun a b V _ hab hb=>absurd hb (by omega)) n 0 n (Lib.bitLen n) _ xP (Nat.zero_le _) (AB _) (by omega) (by have:=GJ n;omega)).mono fun e' w' h=>⟨h.1,xP.trans h.2⟩
theorem Ni{F:Nat}{lb:Array Value}{t e:TypeId}{m ke kS LF:Nat}(S:SlK t e m ke kS LF)(cap:Nat)(w:World):Calls prog 116 #[.iface t (.slice none 0 cap),.func (.func F) #[] lb] w fun e' w'=>e'= .returned (.tuple #[])/\Wx w w':=by
 obtain⟨i,hi,hd⟩:=S.info;obtain⟨ie,h2,h3,h4⟩:=S.elem;refine Any.sort_Slice_of_pdq Gs t e i ie hi hd S.packed h2 ke S.kind none 0 cap (by omega) (Ng LF 0) (Jd S h4 0) (.func F) #[] lb w (fun w'=>Wx w w') ?_;refine(MC _ _ _ _).mono fun e' w' h=>⟨h.1,?_⟩
 have hb:Wx w (sliceWorld prog I0 t none 0 cap w):=((AC _ _).alloc (AB _) _).alloc (by simp) _;exact hb.trans (h.2.mono hb.size)
end
section
open Go.RowKit
attribute [local go_sem ↓] Go.wp_at_zero Go.wp_at_succ Aq Au Av Aw
attribute [local go_sem] BE BL BM BN AR AX AU
theorem LZ{u:Value}(k:Nm)(h:u∈nmc k):u.oneCell'=true:=by
 simp at h;rcases h with rfl|rfl|rfl|rfl|rfl|rfl|rfl|rfl <;> rfl
theorem Bv.nm{T:List Value}{w0 W:World}{g i:Nat}{l:List Nm}{x:Nm}(h:Bv ⟨nmc,T⟩ 24 w0 g l W)(hx:l[i]? =some x):AK W g (i*8) 8=some x.cells:=by
 refine By (fun j u hu=>?_) rfl;have:=EP (c:=⟨nmc,T⟩) (m:=8) (fun _=>rfl) h.blk i j x u hx (by simpa using hu);rwa[Nat.zero_add]at this
theorem Pz(T:List Value)(B g n c:Nat)(l0:List Nm)(w0:World)(hB:Blk w0 B 75 #[.slice (some ⟨g,0,none⟩) n c])(hne:B≠g)(hn:l0.length=n):Fi ⟨nmc,T⟩ 24 w0 g l0 Dc 276 #[.pointer (some ⟨B,0,none⟩)]:=by
 intro W l i j x y hr hp hx hy;have hi:i<n:=by rw[<-hn,<-hp.length_eq];exact(AF.1 hx).1
 have hj:j<n:=by rw[<-hn,<-hp.length_eq];exact(AF.1 hy).1
 have hc0:W.cell? ⟨B,0,none⟩=some (.slice (some ⟨g,0,none⟩) n c):=(hr.box hB hne).cell 0;have xe:Hid (∀V,Wx W V->V.cell? ⟨B,0,none⟩=some (.slice (some ⟨g,0,none⟩) n c)/\AK V g (i*8) 8=some x.cells/\AK V g (j*8) 8=some y.cells):=
  fun V hV=>⟨(hV.cell (p:=⟨B,0,none⟩) (hr.box hB hne).lt).trans hc0,BC (hr.nm hx) hV hr.blk.lt,BC (hr.nm hy) hV hr.blk.lt⟩
 have HL:Hid (∀V,Wx W V->Calls prog 158 #[x.val,y.val] V (An V (Dc x y))):=
  fun V hV=>FD x y V
 obtain⟨r,hrr⟩:=Wr (Dc x y);rw[<-hrr]at HL ⊢;clear hrr hc0 hr hp hx hy hB hn;have hbw:Wx W W:=AC _ _;show Calls prog 276 #[.int .i64 (i:Int),.int .i64 (j:Int),.pointer (some ⟨B,0,none⟩)] W _;go_enter func276,ntmps276;go_upto_region 1 with fail
 refine rgD (fun w'=>w'.cell? ⟨B,0,none⟩=some (.slice (some ⟨g,0,none⟩) n c)/\AK w' g (i*8) 8=some x.cells/\AK w' g (j*8) 8=some y.cells) (xe.out _ hbw.drew) fun _=>?_
 iterate 8 (refine tkA ?_;go_frame)
 refine rd1 8 fun K hK=>?_
 go_simp;refine(HL.out _ hbw.drew).mono ?_;rintro en w2 ⟨rfl,hb2⟩;have xL:=hbw.drew.trans (hb2.mono hbw.size);go_wp2_with fail
 refine hK.out _ _ (xe.out _ xL) (fun _=>?_);clear hK K;try go_frame
 refine tkD 5 9 ?_;go_frame;refine dnD ?_;go_wp2;go_ret;exact⟨rfl,xL⟩
instance:Inhabited Nm:=⟨Nm.zero⟩
noncomputable def nmT:TypeInfo:=(prog.info? 75).get (by kernel_rfl)
noncomputable def nmE:TypeInfo:=(prog.info? 24).get (by kernel_rfl)
theorem V0(n:Nat)(h:2<=n):Lib.swapperK n nmE 17=5:=by
 have a:nmE.hasPointers=false:=by kernel_rfl
 have b:nmE.bytes=8:=by kernel_rfl
 have c0:(n==0)=false:=by simp;omega
 have c1:(n==1)=false:=by simp;omega
 unfold Lib.swapperK;rw[a,b,c0,c1];rfl
theorem RX:SlK 75 24 8 17 5 174:=
 ⟨⟨nmT,by kernel_rfl,by kernel_rfl⟩,by kernel_rfl,⟨nmE,by kernel_rfl,by kernel_rfl,V0⟩,by omega,by kernel_rfl,fun _=>by kernel_rfl,fun _=>by kernel_rfl,
  ⟨true,fun args W=>run_callFunc_extern func174 (by kernel_rfl) (by kernel_rfl) (by kernel_rfl) (e:=Extern.ReflectliteSwapper.swap true) (by kernel_rfl) args W⟩⟩
theorem Nj(args:Array Value)(W:World):(callFunc 276 args).run prog W= .ok (.enter 276 args) W:=enters_of func276 (by kernel_rfl) rfl args W
def V2(D:List Nm)(w:World)(pb:Nat)(v:Value)(e:Ending)(w3:World):Prop:=
 e= .returned (.tuple #[])/\Blk w3 pb 75 #[v]/\Wx w w3/\∃(l3:List Nm),l3.Perm D/\w3.ownsRow w.heap.size 24 8 v l3.length (l3.flatMap nmc)
theorem Uu(w W:World)(pb:Nat)(v:Value)(D:List Nm)(xB:W.ownsRow w.heap.size 24 8 v D.length (D.flatMap nmc))(hb:Wx w W)(hpb:Blk W pb 75 #[v])(hsm:D.length<=1000000):Calls prog 116 #[.iface 75 v,.func (.func 276) #[] #[.pointer (some ⟨pb,0,none⟩)]] W (V2 D w pb v):=by
 rcases IX xB with⟨rfl,h0,_⟩|⟨g,cap,T,rfl,hg,xZ,zm,hAn,xQ⟩
 ·refine(Ni RX 0 W).mono ?_;rintro e w3 ⟨rfl,hb3⟩;have hD:D=[]:=AQ h0;subst hD;exact⟨rfl,hpb.below hb3 hpb.lt,hb.trans (hb3.mono hb.size),[],List.Perm.refl _,by simp,.inl ⟨rfl,rfl⟩⟩
 ·have hne:pb≠g:=by
   intro e;subst e;unfold Blk at hpb xZ;rw[hpb]at xZ;injection xZ with hh
   injection hh with _ ht
   exact absurd ht (by decide)
  refine(Nh RX ⟨nmc,T⟩ (fun _=>rfl) (by decide) (fun x v hv=>LZ x hv) (fun args W=>Nj args W) D g D.length cap W (Pz T pb g D.length cap D W hpb hne rfl) xZ rfl hsm).mono ?_;rintro e w3 ⟨rfl,l3,hr3,hp3⟩;have hl3:=hp3.length_eq;have f3:=AY nmc 8 l3 (Cm l3);have fD:=AY nmc 8 D (Cm D);refine⟨rfl,hr3.box hpb hne,hb.grown hr3.kept hb.size (Wt hg),l3,hp3,f3,.inr ⟨g,cap,_,by rw[hl3],hg,hr3.blk,by rw[hl3];exact zm,hAn,?_,?_⟩⟩
  ·show(l3.flatMap nmc++T).length=_;rw[AI,f3,<-xQ,fD,hl3]
  ·show(l3.flatMap nmc++T).take (l3.length*8)=_;rw[<-f3,List.take_left]
end
section
open Go.RowKit Go.Shelf
attribute [local go_sem ↓] Go.wp_at_zero Go.wp_at_succ Aq Au Av Aw
attribute [local go_sem] BE BL BM BN AR AX AU
theorem Rng.le'{κ:Type}{enc:κ->Value}{w:World}{m r cnt:Nat}{l:List (κ×Value)}(h:Rng enc w m r l cnt):cnt<=l.length:=by
 obtain⟨es,c,s,c0,seen,_,_,h3,_,_,_,_,h8⟩:=h;rw[h8];unfold leftOf;have h4:=congrArg List.length h3;simp only[Ab,Array.length_toList]at h4;rw[<-h4];exact Array.size_filter_le
theorem Rng.ne_row'{κ:Type}{enc:κ->Value}{w:World}{m r cnt base n size:Nat}{e:TypeId}{v:Value}{xs:List Value}{l:List (κ×Value)}(h:Rng enc w m r l cnt)(ho:w.ownsRow base e size v n xs):some m≠v.ownBlock/\some r≠v.ownBlock:=by
 obtain⟨es,c,s,c0,seen,h1,h2,_⟩:=h;rcases ho.2 with⟨rfl,_⟩|⟨g,cap,cur,rfl,_,hh,_⟩
 ·exact⟨by simp[Value.ownBlock],by simp[Value.ownBlock]⟩
 ·refine⟨fun he=>?_,fun he=>?_⟩
  ·have:m=g:=by simpa[Value.ownBlock]using he
   subst this;rw[h1]at hh;cases hh
  ·have:r=g:=by simpa[Value.ownBlock]using he
   subst this;rw[h2]at hh;cases hh
def La(kd:Int)(n:Nat)(O:List Vt)(L:List Nm):Prop:=∀k,k∈L↔¬k=Nm.zero/\n<=Ae (BX (pK kd k) O) 10
def Ge(n:Nat)(L:List Nm)(p:Nm×Value):Prop:=p.1∈L∨p.1=Nm.zero∨∀S:Nat,p.2= .int .i64 (S:Int)->Ae (xOf (S:Int)) 10<n
theorem Ge.snoc{n:Nat}{L:List Nm}{k:Nm}{v:Value}{p:Nm×Value}(h:Ge n L p∨p=(k,v)):Ge n (L++[k]) p:=by
 rcases h with h|rfl
 ·exact h.imp (fun h=>BB _ h) id
 ·exact .inl (BY _ (AM.2 rfl))
theorem Ge.skip{n:Nat}{L:List Nm}{k:Nm}{S:Nat}{p:Nm×Value}(hq:k=Nm.zero∨Ae (xOf (S:Int)) 10<n)(h:Ge n L p∨p=(k,.int .i64 (S:Int))):Ge n L p:=by
 rcases h with h|rfl
 ·exact h
 ·rcases hq with hq|hq
  ·exact .inr (.inl hq)
  ·refine .inr (.inr (fun S' hS'=>?_));simp only[Value.int.injEq,true_and]at hS';have:S=S':=by omega
   rw[<-this];exact hq
theorem La.of{kd:Int}{n:Nat}{O:List Vt}{kl:List (Nm×Value)}{L:List Nm}(hO:∀v∈O,0<=v.signer/\v.signer<=9)(hn:1<=n)(h:BrB kd O kl)(hv:∀p∈kl,Ge n L p)(hL:∀k∈L,¬k=Nm.zero/\n<=Ae (BX (pK kd k) O) 10):La kd n O L:=by
 refine fun k=>⟨hL k,fun⟨h0,hk⟩=>?_⟩
 have hS:=h.1 k;rcases ha:BR k kl with _|v
 ·rw[ha,Option.getD_none]at hS;simp only[Value.int.injEq,true_and]at hS;have:BX (pK kd k) O=0:=by omega
  rw[this]at hk;have:Ae 0 10=0:=by decide
  omega
 ·rw[ha,Option.getD_some]at hS;rcases hv (k,v) (E6 k v kl ha)with h1|h1|h1
  ·exact h1
  ·exact absurd h1 h0
  ·have:=h1 _ hS;rw[DU _ (Fa hO)]at this;omega
def TJ(kd:Int)(n:Nat)(O:List Vt)(w:World)(e:Ending)(w':World):Prop:=
 ∃(v:Value) (L:List Nm),e= .returned v/\La kd n O L/\L.length<=O.length/\w'.ownsRow w.heap.size 24 8 v L.length (L.flatMap nmc)/\Wx w w'
def Uv(kd:Int)(n:Nat)(O:List Vt)(m r pb:Nat)(kl:List (Nm×Value))(w:World)(wr:World):Prop:=
 ∃(cnt:Nat) (v:Value) (L:List Nm),C5 Nm.val wr m r kl cnt (Ge n L)/\Blk wr pb 75 #[v]/\L.length+cnt<=kl.length/\(∀k∈L,¬k=Nm.zero/\n<=Ae (BX (pK kd k) O) 10)/\wr.ownsRow w.heap.size 24 8 v L.length (L.flatMap nmc)/\Wx w wr
theorem MR(kd:Int)(n:Nat)(O:List Vt)(m:Nat)(kl:List (Nm×Value))(wb:World)(hO:∀v∈O,0<=v.signer/\v.signer<=9)(hO6:O.length<=1000000)(hn:1<=n)(hbr:BrB kd O kl)(hmp:Bj Nm.val wb m kl):Calls prog 249 #[.map (some m),.int .i64 (n:Int)] wb (TJ kd n O wb):=by
 have hkl6:kl.length<=1000000:=by have:=hbr.2.2;omega
 have hklO:=hbr.2.2;have HSz:Hid (∀X W,Calls prog 15 #[.int .i64 X] W fun e w'=>e= .returned (.int .i64 ((Ae (xOf X) 10:Nat):Int))/\w'=W):=fun X W=>Cd X W
 have zC:=AA (fun W W' pb v D h1 h2 h3 h4=>Uu W W' pb v D h1 h2 h3 h4);have HOs:=AA hO;have HBr:=AA hbr;have HN1:=AA hn;obtain⟨pb,hpb⟩:=Wr wb.heap.size;obtain⟨w5,hw5⟩:=Wr (wb.alloc (.cells #[.slice none 0 0] 75));have hBp:Blk w5 pb 75 #[.slice none 0 0]:=by rw[hw5,hpb];exact Blk.new wb _ _
 have hAq:Bj Nm.val w5 m kl:=by rw[hw5];exact hmp.alloc _
 have yR:Wx wb w5:=by rw[hw5];exact(AC _ _).alloc (AB _) _
 have hmw:m<wb.heap.size:=hmp.is.lt;have HW5:=AA hw5;have HPb:=AA hpb;have hpw:wb.heap.size<=pb:=by omega
 clear hw5 hpb hO hbr hn hmp;go_enter func249,ntmps249;go_upto_region 2 with fail
 simp only[<-HW5.out,<-HPb.out];obtain⟨r,hr⟩:=Wr w5.heap.size;go_wp2_with (at_range;refine DY _ rfl _ 288 rfl _ _ underlying288 m kl rfl hAq (Ge n []) ?_;intro o6 ON zd)
 have hAr:Blk (w5.alloc o6) pb 75 #[.slice none 0 0]:=hBp.alloc _;have xh:Wx wb (w5.alloc o6):=yR.alloc yR.size _;rw[<-hr]at zd ⊢;have hrw:wb.heap.size<=r:=by rw[hr];exact yR.size
 have hrp:r≠pb:=by have:=hBp.lt;omega
 have hmr:m≠r:=by omega
 have hCe:m≠pb:=by omega
 generalize w5.alloc o6=w6 at*;have ze:=AA zd;have hAs:=AA hAr;clear zd hAr hr hBp hAq yR HW5;go_frame
 go_loopw [10] (fun _ wx=>Uv kd n O m r pb kl wb wx) (fun _ wx=>JN m r wx)
 case atStart=>exact⟨ON,_,[],ze.out,hAs.out,by have:=ze.out.rng.le';simpa using this,fun o ho=>(List.not_mem_nil ho).elim,⟨by simp,.inl ⟨rfl,rfl⟩⟩,xh⟩
 case round=>
  obtain⟨cnt,v,L,hrg,hBp,hLc,hL,xB,hbx⟩:=hrel;have HRg:=AA hrg;have HBp:=AA hBp;have HL3:=AA hL;have xF:=AA xB;have y1:wr.cell? ⟨pb,0,none⟩=some v:=hBp.cell 0;have hL6:L.length<=1000000:=by omega
  have hrx:r<wr.heap.size:=hrg.rng.lt;have hpx:pb<wr.heap.size:=hBp.lt;have hmx:m<wr.heap.size:=hrg.rng.mlt;clear hrg hBp hL xB ze hAs;go_wp2_with (at_next;refine Dm _ rfl _ rfl m r cnt kl _ rfl HRg.out ?_ ?_)
  ·intro hAt;have hCM:=AA hAt;clear hAt;have yQ:=AA (zC.out wb wr pb v L xF.out hbx HBp.out hL6);clear zC;go_wp2_with fail
   refine yQ.out.mono ?_;rintro en w8 ⟨rfl,hB8,hb8,l8,hp8,xV⟩;have z1:w8.cell? ⟨pb,0,none⟩=some v:=hB8.cell 0;have HP8:=AA hp8;have zM:=AA xV;have hll:L.length<=O.length:=by omega
   clear hB8 hp8 xV yQ y1;go_wp2;go_ret;have hA:=La.of HOs.out HN1.out HBr.out (fun pp hpp=>hCM.out pp.1 pp.2 hpp) HL3.out;exact⟨v,l8,rfl,fun k=>(HP8.out.mem_iff).trans (hA k),by rw[HP8.out.length_eq];exact hll,zM.out,hb8⟩
  ·intro k v1 w1 FW yM zQ zR hg1 hs1 hen;obtain⟨S,hv1,yh,hSb⟩:=HBr.out.2.1 (k,v1) yM;simp only at hv1 hSb;subst hv1;have HSb:=AA hSb;have hb1:Wx wb w1:=hbx.grown hg1 hbx.size (Wt hrw);have zp:Hid (Blk w1 pb 75 #[v]):=HBp.out.kept hg1 (by intro e;injection e with e;exact hrp e.symm);have hnr:v.ownBlock≠some r:=fun e=>(HRg.out.rng.ne_row' xF.out).2 e.symm
   have HOwn1E:Hid (w1.ownsRow wb.heap.size 24 8 v L.length (L.flatMap nmc)):=Ba xF.out hg1 (Wt (.inr hnr));have hCf:=AA zQ;have hr1:r<w1.heap.size:=zQ.rng.lt;have hm1:m<w1.heap.size:=zQ.rng.mlt;have hp1:pb<w1.heap.size:=zp.out.lt;clear yM zQ hg1 y1 hnr hSb;clear hs1;go_upto_region 5 with fail
   obtain⟨w4,hw4⟩:=Wr (w1.alloc (.cells k.cells 24));rw[<-hw4];have yx:Hid (C5 Nm.val w4 m r kl FW (fun p=>Ge n L p∨p=(k,.int .i64 (S:Int)))):=by unfold Hid;rw[hw4];exact hCf.out.alloc _
   have yU:Hid (Blk w4 pb 75 #[v]):=by unfold Hid;rw[hw4];exact zp.out.alloc _
   have xJ:Hid (w4.ownsRow wb.heap.size 24 8 v L.length (L.flatMap nmc)):=by unfold Hid;rw[hw4];exact HOwn1E.out.alloc _
   have hb4:Wx wb w4:=by rw[hw4];exact hb1.alloc hb1.size _
   have hB4:Blk w4 w1.heap.size 24 k.cells:=by rw[hw4];exact Blk.new w1 _ _
   clear hw4;obtain⟨z,hz⟩:=Wr w1.heap.size;rw[<-hz]at hB4 ⊢;have x3:AK w4 z 0 8=some k.cells:=hB4.row 8 rfl;have y4:w4.cell? ⟨pb,0,none⟩=some v:=yU.out.cell 0;clear hB4 hz hen zp HOwn1E hb1;obtain⟨a,ha⟩:=Wr (Ae (xOf (S:Int)) 10);have hCg:Hid (∀W,Calls prog 15 #[.int .i64 (S:Int)] W fun e w'=>e= .returned (.int .i64 (a:Int))/\w'=W):=fun W=>by rw[ha];exact HSz.out _ W
   have HA:=AA ha;clear ha;try go_frame
   by_cases h0:k=Nm.zero
   ·have e0:∀W,(Op.equalIn 10000 24 (.agg k.cells) (.agg #[.int .u8 0,.int .u8 0,.int .u8 0,.int .u8 0,.int .u8 0,.int .u8 0,.int .u8 0,.int .u8 0])).run prog W= .ok true W:=fun W=>by
     have h:=Io k W;rwa[decide_eq_true h0]at h
    have H0:=AA h0;clear h0;go_wp2;go_roundw
    case rel=>exact⟨FW,v,L,yx.out.mono (fun p hp=>Ge.skip (.inl H0.out) hp),yU.out,by omega,HL3.out,xJ.out,hb4⟩
    case measure=>rw[yx.out.rng.left_eq,HRg.out.rng.left_eq];exact zR
   have e0:∀W,(Op.equalIn 10000 24 (.agg k.cells) (.agg #[.int .u8 0,.int .u8 0,.int .u8 0,.int .u8 0,.int .u8 0,.int .u8 0,.int .u8 0,.int .u8 0])).run prog W= .ok false W:=fun W=>by
    have h:=Io k W;rwa[decide_eq_false h0]at h
   have H0:=AA h0;clear h0;by_cases hq:n<=a
   ·have dq:decide ((n:Int)<=(a:Int))=true:=by simp;omega
    go_wp2_with fail
    refine(hCg.out _).mono ?_;rintro en w5' ⟨rfl,xi⟩;replace xi:=xi.symm;subst xi;have hok:¬k=Nm.zero/\n<=Ae (BX (pK kd k) O) 10:=⟨H0.out,by
     have h:=CM (a:=S) (b:=BX (pK kd k) O) (fun i _ hi=>HSb.out i hi) 10 (AB _);have h2:=HA.out;rw[DU S yh]at h2;omega⟩
    have HOk:=AA hok;clear hok;go_wp2_with ((first
     |(refine BQ rfl 75 24 (.tmp 25) rfl k.cells rfl underlying75 (by kernel_rfl) (by decide) (by decide) ?_)
     |(at_builtin;refine Ar rfl (.tmp 24) (.tmp 26) _ rfl wb.heap.size 24 (Nm.val ⟨0,0,0,0,0,0,0,0⟩) 8 8 underlying75 Dj rfl (by decide) v L.length (L.flatMap nmc) rfl ?r0 (w4.heap.size+1) (some ⟨w4.heap.size,0,none⟩) 1 1 (nmc k) rfl ?r1 ?r2 ?r3 ?r4 ?r5 ?r6 ?_)))
    case r0=>exact xJ.out.alloc _
    case r1=>rfl
    case r2=>exact Rd.mk (by omega) (fun j u hu=>by rw[Nat.zero_add,(Blk.new w4 _ _).cell];simpa using hu)
    case r3=>exact fun u hu=>LZ k hu
    case r4=>omega
    case r5=>unfold maxLen;omega
    case r6=>have:=hb4.size;simp;omega
    intro v7 w7 xE hg7 xo;have hAu:some pb≠v.ownBlock:=CO xJ.out yU.out (by decide);have hnn:=yx.out.rng.ne_row' xJ.out;have yy:Hid (Blk w7 pb 75 #[v]):=(yU.out.alloc _).kept hg7 hAu;have hCh:Hid (C5 Nm.val w7 m r kl FW (fun p=>Ge n L p∨p=(k,.int .i64 (S:Int)))):=(yx.out.alloc _).kept hg7 hnn.1 hnn.2;have hb7:Wx wb w7:=BO (hb4.alloc hb4.size _) (xJ.out.alloc _) hg7;have hAv:some pb≠v7.ownBlock:=CO xE yy.out (by decide);obtain⟨g7,cap7,rfl⟩:=ownsRow_succ xE;have xO:=AA xE;have HNe:=AA hAv;have y6:w7.cell? ⟨pb,0,none⟩=some v:=yy.out.cell 0;have y7:w7.frozen? ⟨pb,0,none⟩=false:=yy.out.frozen 0;clear xE hg7 xo hAu hnn hAv y4 x3;go_wp2;try go_frame
    have hAw:Hid (C5 Nm.val (w7.setCell ⟨pb,0,none⟩ (.slice (some ⟨g7,0,none⟩) (L.length+1) cap7)) m r kl FW (Ge n (L++[k]))):=(hCh.out.kept (Bl (p:=⟨pb,0,none⟩) (Al w7 pb) rfl _) (by intro e;injection e with e;exact hCe e) (by intro e;injection e with e;exact hrp e)).mono (fun p hp=>Ge.snoc hp);go_roundw
    case rel=>
     refine⟨FW,_,L++[k],hAw.out,yy.out.put 0 _,by rw[AI];simp;omega,?_,?_,hb7.setCell hpw _⟩
     ·intro t ht;rcases AP.1 ht with ht|ht
      ·exact HL3.out t ht
      ·rw[AM.1 ht];exact HOk.out
     ·have h:=Ba xO.out (Bl (p:=⟨pb,0,none⟩) (Al w7 pb) rfl (.slice (some ⟨g7,0,none⟩) (L.length+1) cap7)) (Wt (.inr (fun e=>HNe.out e.symm)));rw[AI,Af];simpa using h
    case measure=>rw[hAw.out.rng.left_eq,HRg.out.rng.left_eq];exact zR
   ·have dq:decide ((n:Int)<=(a:Int))=false:=by simp;omega
    go_wp2_with fail
    refine(hCg.out _).mono ?_;rintro en w5' ⟨rfl,xi⟩;replace xi:=xi.symm;subst xi;go_wp2;go_roundw
    case rel=>exact⟨FW,v,L,yx.out.mono (fun p hp=>Ge.skip (.inr (by rw[<-HA.out];omega)) hp),yU.out,by omega,HL3.out,xJ.out,hb4⟩
    case measure=>rw[yx.out.rng.left_eq,HRg.out.rng.left_eq];exact zR
end
end Go.Proofs.YtadllffeoibelaaGreat
