/-
  What these parts of the proof come to, functions walked and plain laws: Acc3. No condition.
-/
import Derived.Test.YtadllffeoibelaaGreatS27
import Derived.Test.YtadllffeoibelaaGreatS28
import Derived.Deep.DeepCutAuto
import Derived.ScopeJumps
import Derived.Test.YtadllffeoibelaaGreatS6
namespace Go.Proofs.YtadllffeoibelaaGreat
set_option maxRecDepth 100000
set_option maxHeartbeats 32000000
set_option linter.all false
section
open Go.RowKit
attribute [local go_sem ↓] Go.wp_at_zero Go.wp_at_succ An Au Av Aw
attribute [local go_sem] BD BH BI BJ AN AW AQ
def SmP(p:Nm)(l:List Vt):Prop:=(∀v∈l,v.kind≤4∧¬(v.kind=4∧v.choice=2))∧(l.filter fun s=>decide (s.parent=p)).length≤12
def Ea(M:Int)(p:Nm)(s:Int)(l O:List Vt):Prop:=Py M p s l O∧(SmP p l→O=Fl M (Lc p l))
def Re(M:Int)(p:Nm)(s:Int)(l D:List Vt)(w:World)(v fv iv:Value)(wr:World):Prop:=
 ∃(i:Nat) (O:List Vt),iv= .int .i64 (i:Int)∧fv= .int .i64 0∧i≤D.length∧O.length≤i∧(SmP p l→O=Fl M (D.take i))∧Py M p s D O∧wr.ownsRow w.heap.size 46 22 v O.length (O.flatMap vtc)∧Below w.heap.size w wr∧((v= .slice none 0 0∧O=[])∨0<O.length)
theorem I3(M:Int)(p:Nm)(A:Option Addr)(n c:Nat)(l:List Vt)(s:Int)(w0:World)(hn:l.length=n)(hr:Rd w0 w0.heap.size A (l.flatMap vtc))(hsm:n≤1000000)(hl:∀v∈l,Ae v∧v.slot=s)(hs:(xOf M).testBit s.toNat=true):Calls Tryz.prog 114 #[.int .i64 M,p.val,.slice A n c] w0 fun e w'=>∃(v:Value) (O:List Vt),e= .returned v∧Ea M p s l O∧O.length≤n∧w'.ownsRow w0.heap.size 46 22 v O.length (O.flatMap vtc)∧Below w0.heap.size w0 w':=by
 obtain⟨wa,hwa⟩:∃wa,wa=w0.alloc (.cells p.cells 24):=⟨_,rfl⟩;have hba:Below w0.heap.size w0 wa:=by rw[hwa];exact(AC _ _).alloc (AB _) _
 have y1:AK wa w0.heap.size 0 8=some p.cells:=by rw[hwa];exact(Blk.new w0 _ _).row 8 rfl
 have hsa:wa.heap.size=w0.heap.size+1:=by rw[hwa];simp
 have HAsc:=AA (QG p A n c l wa hn ((hr.below hba).more hba.size) hsm);have HL:=AA hl;have HS:=AA hs;have HWa:=AA hwa;clear hn hr hl hs hwa;go_enter Tryz.func114,Tryz.ntmps114;go_wp2;go_step3;go_wp2;go_step3;simp only[←HWa.out];go_wp2_with fail
 refine HAsc.out.mono ?_;rintro en w ⟨v0,D,rfl,hD,hDn,hDe,hownD,hbD⟩;have HDe:=AA hDe;clear hDe;have HD:Hid (∀x∈D,x∈l∧(Ae x∧x.slot=s)∧x.parent=p):=fun x hx=>⟨(hD x hx).1,HL.out x (hD x hx).1,(hD x hx).2⟩
 obtain⟨A1,c1,rfl,hR1⟩:∃A1 c1,v0= .slice A1 D.length c1∧Rd w w.heap.size A1 (D.flatMap vtc):=by
  rcases hownD.2 with⟨rfl,h0⟩|⟨g,cap,cur,rfl,_⟩
  ·exact⟨none,0,by rw[h0],.inl (AV (by rw[hownD.1,h0,Nat.zero_mul]))⟩
  ·exact⟨_,cap,rfl,Rd.of_own hownD⟩
 obtain⟨m,hm⟩:∃m,D.length=m:=⟨_,rfl⟩;rw[hm]at hDn ⊢;have HM:=AA hm;have HR:=AA hR1;have hbw0:Below w0.heap.size w0 w:=hba.trans (hbD.mono hba.size);have hm6:m≤1000000:=by omega
 clear hm hD hownD hR1 y1 HAsc;go_wp2
 go_loopw [7,8,15] (fun v fv iv wr=>Re M p s l D w v fv iv wr) (fun _ _ iv _=>m-(intOf iv).toNat)
 case atStart=>exact⟨0,[],rfl,rfl,Nat.zero_le _,AB _,(fun _=>by simp[Fl]),⟨Mp.nil M,fun x hx=>by cases hx⟩,⟨by simp,.inl ⟨rfl,rfl⟩⟩,AC _ _,.inl ⟨rfl,rfl⟩⟩
 case round=>
  obtain⟨i,O,rfl,rfl,hin,hOi,hOe,hO,hown,hbw,hnil⟩:=hrel;have HOe:=AA hOe;clear hOe;rw[HM.out]at hin;have HO:=AA hO;have HOwn:=AA hown;clear hO hown;have hO6:O.length≤1000000:=by omega
  by_cases hi:i<m
  ·have di:decide ((i:Int)<(m:Int))=true:=by simp;omega
   obtain⟨x,hx⟩:∃x,D[i]? =some x:=⟨_,AE (by rw[HM.out];exact hi)⟩;obtain⟨b,o,rfl,hb,hcell⟩:=HR.out.cells (by intro e;have:=AX vtc 22 D (B6 D);rw[e,HM.out]at this;simp at this;omega);clear hcell;have x1:AK wr b (o+i*22) 22=some x.cells:=(HR.out.below hbw).voteRow hx;have HX:=AA (HD.out x (AM hx));have HXD:=AA (AM hx);have HStep:Hid (SmP p l→∀b,KX M (B9 (At (xOf M) 10)) x O b→Fl M (D.take (i+1))=if b=true then O++[x]else O):=fun sm b hb=>by
    have hm:=sm.1 x (HD.out x (AM hx)).1;have hb:=hb.2 hm.1;rw[Ag,hx,HOe.out sm];rw[HOe.out sm]at hb;exact OZ hm.2 hb
   clear hx;rcases hnil with⟨rfl,rfl⟩|hpos
   ·go_upto_region 6 with(refine AJ rfl 46 (.tmp 10) (.tmp 18) rfl wr.heap.size x.cells rfl rfl 46 Bk.cells (Blk.new wr _ _) (by rfl) (by kernel_rfl) (fun u hu=>BM x hu) ?_;intro w4 hB4 hg4 hsz4)
    have HOwn4:Hid (w4.ownsRow w.heap.size 46 22 (.slice none 0 0) 0 (([]:List Vt).flatMap vtc)):=BZ (HOwn.out.alloc _) hg4 (fun k hk=>by
     injection hk with hk
     subst hk;right;intro e;have:=(HOwn.out.lt _ e).2;omega)
    have hbw4:Below w.heap.size w w4:=(hbw.alloc hbw.size _).grown hg4 (AF hbw.size (by simp)) (fun k hk=>by injection hk with hk;subst hk;exact hbw.size);have hw4:w4.heap.size=wr.heap.size+1:=by rw[hsz4];simp
    obtain⟨z,hz⟩:∃z,z=wr.heap.size:=⟨_,rfl⟩;rw[←hz]at hB4 hw4 ⊢;have x3:AK w4 z 0 22=some x.cells:=hB4.row 22 rfl;have x4:w4.cell? ⟨z,1,none⟩=some (.int .i64 x.slot):=hB4.cell 1;have hz4:z<w4.heap.size:=by omega
    have HRv:Hid (∀V,Below w4.heap.size w4 V→AK V z 0 22=some x.cells):=fun V hV=>(hB4.below hV hz4).row 22 rfl
    clear hg4 hsz4 x1 HOwn hz hw4;clear hB4;try go_frame
    go_cut[32] (fun bv wx=>bv= .bool false∧∃k,wx=w4.drewN k)
    case first=>
     refine rgD (fun _=>True) (trivial) fun hHeld=>?_
     refine tkD 19 0 ?_;go_frame;refine tkD 20 1 ?_;go_frame;refine tkD 21 2 ?_;go_frame;refine tkD 22 3 ?_;go_frame;refine tkD 23 4 ?_;go_frame;refine skD 24 5 ?_;go_frame;refine skD 25 6 ?_;go_frame;refine skD 26 7 ?_;go_frame;refine skD 27 8 ?_;go_frame;refine skD 28 9 ?_;go_frame;refine skD 29 10 ?_;go_frame;refine skD 30 11 ?_;go_frame;refine skD 31 12 ?_;go_frame;refine tkD 32 13 ?_;go_frame;refine dnD ?_;go_wp2_with fail
     go_meet;exact⟨rfl,1,rfl⟩
    case rest=>
     obtain⟨rfl,k,rfl⟩:=hcut;have HOwn5:Hid ((w4.drewN k).ownsRow w.heap.size 46 22 (.slice none 0 0) 0 (([]:List Vt).flatMap vtc)):=HOwn4.out;have hbw5:Below w.heap.size w (w4.drewN k):=BN hbw4 k;have hb45:Below w4.heap.size w4 (w4.drewN k):=BN (AC _ _) k;have HRv5:Hid (∀V,Below (w4.drewN k).heap.size (w4.drewN k) V→AK V z 0 22=some x.cells):=fun V hV=>HRv.out V (hb45.trans (hV.mono hb45.size))
     have hz5:z<(w4.drewN k).heap.size:=hz4;clear HOwn4 hbw4 hb45 HRv x3 x4;generalize w4.drewN k=w5 at*;have HAl:Hid (∀V,Below w5.heap.size w5 V→Calls Tryz.prog 167 #[.int .i64 M,x.val,.slice none 0 0] V fun e w'=>∃b,e= .returned (.bool b)∧Below V.heap.size V w'∧KX M (B9 (At (xOf M) 10)) x ([]:List Vt) b):=fun V hV=>
      I2 M 0 none 0 ([]:List Vt) x V rfl Rd.nil (fun t ht=>⟨(HO.out.2 t ht).2.1.1,(HO.out.2 t ht).2.1.2.1,((HO.out.2 t ht).2.2.1).trans HX.out.2.2.symm,((HO.out.2 t ht).2.1.2.2).trans HX.out.2.1.2.symm,(HO.out.2 t ht).2.2.2⟩) (by omega)
       HX.out.2.1.1 (by rw[HX.out.2.1.2];exact HS.out)
     have x6:AK w5 z 0 22=some x.cells:=HRv5.out w5 (AC _ _);have hbx:Below w5.heap.size w5 w5:=AC _ _;go_wp2_with fail
     refine rgD (fun w'=>AK w' z 0 22=some x.cells) (HRv5.out _ hbx.drew) fun hHeld=>?_
     refine tkD 35 0 ?_;go_frame;refine tkD 36 1 ?_;go_frame;refine tkD 37 2 ?_;go_frame;refine tkD 38 3 ?_;go_frame;refine tkD 39 4 ?_;go_frame;refine rd1 5 fun K hK=>?_
     go_simp;refine(HAl.out _ hbx.drew).mono ?_;rintro en w6 ⟨r,rfl,hb6,hal⟩;have hb56:=hbx.drew.trans (hb6.mono (AB _));have HAL:=AA hal;clear hal;go_wp2_with fail
     refine hK.out _ _ (HRv5.out _ hb56) (fun hHeld=>?_);clear hK K;try go_frame
     refine tkD 41 6 ?_;go_frame;refine dnD ?_;have hbw6:Below w.heap.size w w6:=hbw5.trans (hb56.mono hbw5.size);have HOwn6:Hid (w6.ownsRow w.heap.size 46 22 (.slice none 0 0) 0 (([]:List Vt).flatMap vtc)):=BA HOwn5.out hb56 (AB _);have x7:AK w6 z 0 22=some x.cells:=HRv5.out _ hb56;clear HOwn5 hbw5 HAl HRv5 hb56 hb6 x6 hbx;cases r with
     |false=>
      go_wp2;go_roundw
      case rel=>exact⟨i+1,([]:List Vt),by go_num,rfl,by rw[HM.out];omega,by simp,(fun sm=>by rw[HStep.out sm false HAL.out];rfl),HO.out,HOwn6.out,hbw6,.inl ⟨rfl,rfl⟩⟩
      case measure=>simp[intOf];omega
     |true=>
      go_wp2_with ((first
       |(refine BP rfl 56 46 (.tmp 43) rfl x.cells rfl Tryz.underlying56 (by kernel_rfl) (by decide) (by decide) ?_)
       |(at_builtin;refine Aq rfl (.tmp 42) (.tmp 44) _ rfl w.heap.size 46 (.agg Bk.cells) 22 64 Tryz.underlying56 CA rfl (by decide) (.slice none 0 0) 0 (([]:List Vt).flatMap vtc) rfl ?r0 (w6.heap.size+1) (some ⟨w6.heap.size,0,none⟩) 1 1 (vtc x) rfl ?r1 ?r2 ?r3 ?r4 ?r5 ?r6 ?_)))
      case r0=>exact HOwn6.out.alloc _
      case r1=>rfl
      case r2=>exact Rd.mk (by omega) (fun j u hu=>by rw[Nat.zero_add,(Blk.new w6 _ _).cell];simpa using hu)
      case r3=>exact fun u hu=>BM x hu
      case r4=>omega
      case r5=>unfold maxLen;omega
      case r6=>have:=hbw6.size;simp;omega
      intro v7 w7 hown7 hg7 hat7;have hbw7:Below w.heap.size w w7:=BL (hbw6.alloc hbw6.size _) (HOwn6.out.alloc _) hg7;have HOwn7:=AA hown7;clear hown7 hg7 hat7 x7 HOwn6;go_wp2;go_roundw
      case rel=>
       refine⟨i+1,([]:List Vt)++[x],by go_num,rfl,by rw[HM.out];omega,by rw[AI];simp,(fun sm=>by rw[HStep.out sm true HAL.out];rfl),⟨HO.out.1.snoc (HAL.out.2 (HAL.out.1 rfl)),?_⟩,?_,hbw7,.inr (by rw[AI];simp)⟩
       ·intro t ht;rcases AP.1 ht with ht|ht
        ·exact HO.out.2 t ht
        ·rw[AR.1 ht];exact⟨HXD.out,⟨HX.out.2.1.1,HAL.out.1 rfl,HX.out.2.1.2⟩,HX.out.2.2,J2 (HAL.out.2 (HAL.out.1 rfl))⟩
       ·have h:=HOwn7.out;rw[AI,Ad];simpa using h
      case measure=>simp[intOf];omega
   ·obtain⟨g,cap,T,rfl,hg,hblk,hcap⟩:∃g cap T,u7= .slice (some ⟨g,0,none⟩) O.length cap∧w.heap.size≤g∧Blk wr g 46 (O.flatMap vtc++T).toArray∧O.length≤cap:=by
     rcases FD HOwn.out with⟨_,h0,_⟩|h
     ·omega
     ·exact h
    go_upto_region 6 with(refine AJ rfl 46 (.tmp 10) (.tmp 18) rfl wr.heap.size x.cells rfl rfl 46 Bk.cells (Blk.new wr _ _) (by rfl) (by kernel_rfl) (fun u hu=>BM x hu) ?_;intro w4 hB4 hg4 hsz4)
    have HOwn4:Hid (w4.ownsRow w.heap.size 46 22 (.slice (some ⟨g,0,none⟩) O.length cap) O.length (O.flatMap vtc)):=BZ (HOwn.out.alloc _) hg4 (fun k hk=>by
     injection hk with hk
     subst hk;right;intro e;have:=(HOwn.out.lt _ e).2;omega)
    have hbw4:Below w.heap.size w w4:=(hbw.alloc hbw.size _).grown hg4 (AF hbw.size (by simp)) (fun k hk=>by injection hk with hk;subst hk;exact hbw.size);have hw4:w4.heap.size=wr.heap.size+1:=by rw[hsz4];simp
    obtain⟨z,hz⟩:∃z,z=wr.heap.size:=⟨_,rfl⟩;rw[←hz]at hB4 hw4 ⊢;have x3:AK w4 z 0 22=some x.cells:=hB4.row 22 rfl;have x4:w4.cell? ⟨z,1,none⟩=some (.int .i64 x.slot):=hB4.cell 1;have hz4:z<w4.heap.size:=by omega
    have HRv:Hid (∀V,Below w4.heap.size w4 V→AK V z 0 22=some x.cells):=fun V hV=>(hB4.below hV hz4).row 22 rfl
    clear hsz4 x1 HOwn hz hw4;have HG4:Hid (Blk w4 g 46 (O.flatMap vtc++T).toArray):=(hblk.alloc _).kept hg4 (by intro e;injection e with e;have:=hblk.lt;omega);clear hg4 hblk;obtain⟨y,hy⟩:∃y,O[0]? =some y:=⟨_,AE hpos⟩;have hysl:y.slot=x.slot:=((HO.out.2 y (AM hy)).2.1.2.2).trans HX.out.2.1.2.symm;have x5:w4.cell? ⟨g,1,none⟩=some (.int .i64 x.slot):=by
     have h:=D3 (c:=⟨vtc,T⟩) (m:=22) (fun _=>rfl) HG4.out 0 1 y (.int .i64 y.slot) hy rfl;rw[←hysl];simpa using h
    have hgz:g<w4.heap.size:=HG4.out.lt;clear hy hysl;clear hB4;have dl:decide (0<(O.length:Int))=true:=by simp;omega
    have dn:(x.slot !=x.slot)=false:=by simp
    have HX45:Hid (w4.cell? ⟨z,1,none⟩=some (.int .i64 x.slot)∧w4.cell? ⟨g,1,none⟩=some (.int .i64 x.slot)):=⟨x4,x5⟩;obtain⟨nO,hnO⟩:∃nO,O.length=nO:=⟨_,rfl⟩;rw[hnO]at hcap dl hO6 hpos hOi ⊢;have dl2:decide (0<nO)=true:=by simp;omega
    have HNO:=AA hnO;clear hnO;try go_frame
    go_cut[32] (fun bv wx=>bv= .bool false∧∃k,wx=w4.drewN k)
    case first=>
     refine rgD (fun w'=>w'.cell? ⟨z,1,none⟩=some (.int .i64 x.slot)∧w'.cell? ⟨g,1,none⟩=some (.int .i64 x.slot)) (HX45.out) fun hHeld=>?_
     refine tkD 19 0 ?_;go_frame;refine tkD 20 1 ?_;go_frame;refine tkD 21 2 ?_;go_frame;refine tkD 22 3 ?_;go_frame;refine tkD 23 4 ?_;go_frame;refine tkD 24 5 ?_;go_frame;refine tkD 25 6 ?_;go_frame;refine tkD 26 7 ?_;go_frame;refine tkD 27 8 ?_;go_frame;refine tkD 28 9 ?_;go_frame;refine tkD 29 10 ?_;go_frame;refine tkD 30 11 ?_;go_frame;refine tkD 31 12 ?_;go_frame;refine tkD 32 13 ?_;go_frame;refine dnD ?_;go_wp2_with fail
     go_meet;exact⟨rfl,1,rfl⟩
    case rest=>
     obtain⟨rfl,k,rfl⟩:=hcut;have HOwn5:Hid ((w4.drewN k).ownsRow w.heap.size 46 22 (.slice (some ⟨g,0,none⟩) O.length cap) O.length (O.flatMap vtc)):=HOwn4.out;have hbw5:Below w.heap.size w (w4.drewN k):=BN hbw4 k;have hb45:Below w4.heap.size w4 (w4.drewN k):=BN (AC _ _) k;have HRv5:Hid (∀V,Below (w4.drewN k).heap.size (w4.drewN k) V→AK V z 0 22=some x.cells):=fun V hV=>HRv.out V (hb45.trans (hV.mono hb45.size))
     have hz5:z<(w4.drewN k).heap.size:=hz4;clear HOwn4 hbw4 hb45 HRv x3 x4;clear HG4 x5 HX45 hgz;generalize w4.drewN k=w5 at*;have HAl:Hid (∀V,Below w5.heap.size w5 V→Calls Tryz.prog 167 #[.int .i64 M,x.val,.slice (some ⟨g,0,none⟩) nO cap] V fun e w'=>∃b,e= .returned (.bool b)∧Below V.heap.size V w'∧KX M (B9 (At (xOf M) 10)) x O b):=fun V hV=>
      I2 M nO (some ⟨g,0,none⟩) cap O x V HNO.out ((Rd.of_own (HNO.out▸HOwn5.out)).below hV|>.more hV.size) (fun t ht=>⟨(HO.out.2 t ht).2.1.1,(HO.out.2 t ht).2.1.2.1,((HO.out.2 t ht).2.2.1).trans HX.out.2.2.symm,((HO.out.2 t ht).2.1.2.2).trans HX.out.2.1.2.symm,(HO.out.2 t ht).2.2.2⟩) (by omega)
       HX.out.2.1.1 (by rw[HX.out.2.1.2];exact HS.out)
     have x6:AK w5 z 0 22=some x.cells:=HRv5.out w5 (AC _ _);have hbx:Below w5.heap.size w5 w5:=AC _ _;go_wp2_with fail
     refine rgD (fun w'=>AK w' z 0 22=some x.cells) (HRv5.out _ hbx.drew) fun hHeld=>?_
     refine tkD 35 0 ?_;go_frame;refine tkD 36 1 ?_;go_frame;refine tkD 37 2 ?_;go_frame;refine tkD 38 3 ?_;go_frame;refine tkD 39 4 ?_;go_frame;refine rd1 5 fun K hK=>?_
     go_simp;refine(HAl.out _ hbx.drew).mono ?_;rintro en w6 ⟨r,rfl,hb6,hal⟩;have hb56:=hbx.drew.trans (hb6.mono (AB _));have HAL:=AA hal;clear hal;go_wp2_with fail
     refine hK.out _ _ (HRv5.out _ hb56) (fun hHeld=>?_);clear hK K;try go_frame
     refine tkD 41 6 ?_;go_frame;refine dnD ?_;have hbw6:Below w.heap.size w w6:=hbw5.trans (hb56.mono hbw5.size);have HOwn6:Hid (w6.ownsRow w.heap.size 46 22 (.slice (some ⟨g,0,none⟩) O.length cap) O.length (O.flatMap vtc)):=BA HOwn5.out hb56 (AB _);have x7:AK w6 z 0 22=some x.cells:=HRv5.out _ hb56;clear HOwn5 hbw5 HAl HRv5 hb56 hb6 x6 hbx;cases r with
     |false=>
      go_wp2;go_roundw
      case rel=>exact⟨i+1,O,by go_num,rfl,by rw[HM.out];omega,by rw[HNO.out];omega,(fun sm=>by rw[HStep.out sm false HAL.out];rfl),HO.out,(by have h:=HOwn6.out;rw[HNO.out]at h ⊢;exact h),hbw6,.inr (by rw[HNO.out];omega)⟩
      case measure=>simp[intOf];omega
     |true=>
      go_wp2_with ((first
       |(refine BP rfl 56 46 (.tmp 43) rfl x.cells rfl Tryz.underlying56 (by kernel_rfl) (by decide) (by decide) ?_)
       |(at_builtin;refine Aq rfl (.tmp 42) (.tmp 44) _ rfl w.heap.size 46 (.agg Bk.cells) 22 64 Tryz.underlying56 CA rfl (by decide) (.slice (some ⟨g,0,none⟩) nO cap) nO (O.flatMap vtc) rfl ?r0 (w6.heap.size+1) (some ⟨w6.heap.size,0,none⟩) 1 1 (vtc x) rfl ?r1 ?r2 ?r3 ?r4 ?r5 ?r6 ?_)))
      case r0=>exact(HNO.out▸HOwn6.out.alloc _)
      case r1=>rfl
      case r2=>exact Rd.mk (by omega) (fun j u hu=>by rw[Nat.zero_add,(Blk.new w6 _ _).cell];simpa using hu)
      case r3=>exact fun u hu=>BM x hu
      case r4=>omega
      case r5=>unfold maxLen;omega
      case r6=>have:=hbw6.size;simp;omega
      intro v7 w7 hown7 hg7 hat7;have hbw7:Below w.heap.size w w7:=BL (hbw6.alloc hbw6.size _) (HOwn6.out.alloc _) hg7;have HOwn7:=AA hown7;clear hown7 hg7 hat7 x7 HOwn6;go_wp2;go_roundw
      case rel=>
       refine⟨i+1,O++[x],by go_num,rfl,by rw[HM.out];omega,by rw[AI,HNO.out];simp;omega,(fun sm=>by rw[HStep.out sm true HAL.out];rfl),⟨HO.out.1.snoc (HAL.out.2 (HAL.out.1 rfl)),?_⟩,?_,hbw7,.inr (by rw[AI];simp)⟩
       ·intro t ht;rcases AP.1 ht with ht|ht
        ·exact HO.out.2 t ht
        ·rw[AR.1 ht];exact⟨HXD.out,⟨HX.out.2.1.1,HAL.out.1 rfl,HX.out.2.1.2⟩,HX.out.2.2,J2 (HAL.out.2 (HAL.out.1 rfl))⟩
       ·have h:=HOwn7.out;rw[AI,Ad];simpa[HNO.out]using h
      case measure=>simp[intOf];omega
  ·have di:decide ((i:Int)<(m:Int))=false:=by simp;omega
   clear hnil;go_wp2;rw[Exit.noGoto_ret];go_ret;exact⟨u7,O,rfl,⟨⟨HO.out.1,fun y hy=>⟨(HD.out y (HO.out.2 y hy).1).1,(HO.out.2 y hy).2⟩⟩,fun sm=>(by have h:=HOe.out sm;rw[AT (by rw[HM.out];omega),HDe.out sm.2]at h;exact h)⟩,by omega,BF HOwn.out hbw0.size,hbw0.trans (hbw.mono hbw0.size)⟩
end
end Go.Proofs.YtadllffeoibelaaGreat
