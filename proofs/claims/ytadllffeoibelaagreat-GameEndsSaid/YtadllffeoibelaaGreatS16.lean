/-
  Parts of the proof. No condition.
-/
import Derived.Test.YtadllffeoibelaaGreatS15
open Go.Proofs.Tryz
namespace Go.Proofs.YtadllffeoibelaaGreat
set_option maxRecDepth 100000
set_option maxHeartbeats 32000000
set_option linter.all false
section
open Go.RowKit
attribute [local go_sem ↓] Go.wp_at_zero Go.wp_at_succ Aq Au Av Aw
attribute [local go_sem] BE BL BM BN AR AX AU
def SmP(p:Nm)(l:List Vt):Prop:=Fe (l.filter fun s=>decide (s.parent=p))
theorem Nf{M:Int}{D:List Vt}{v:Vt}{b:Bool}(h:JZ M (Bd (Ae (xOf M) 10)) v (CP M D) b):CP M (D++[v])=if b=true then CP M D++[v]else CP M D:=by
 by_cases hk:v.kind<=4
 ·exact Px hk (h.2 hk)
 ·have hb:b=false:=by
   cases hb:b with
   |false=>rfl
   |true=>exact absurd (h.1 hb) hk
  have e:CP M (D++[v])=if Em M (CP M D) v=true then CP M D++[v]else CP M D:=by
   unfold CP;rw[List.foldl_append];rfl
  have e2:Em M (CP M D) v=false:=by
   unfold Em;rw[decide_eq_false hk,Bool.false_and]
  rw[e,e2,hb]
def D0(M:Int)(p:Nm)(s:Int)(l O:List Vt):Prop:=RG M p s l O/\(SmP p l->O=CP M (EX p l))
def TH(M:Int)(p:Nm)(s:Int)(l D:List Vt)(w:World)(v fv iv:Value)(wr:World):Prop:=
 ∃(i:Nat) (O:List Vt),iv= .int .i64 (i:Int)/\fv= .int .i64 0/\i<=D.length/\O.length<=i/\(SmP p l->O=CP M (D.take i))/\RG M p s D O/\wr.ownsRow w.heap.size 46 22 v O.length (O.flatMap vtc)/\Wx w wr/\((v= .slice none 0 0/\O=[])∨0<O.length)
theorem Jb(M:Int)(p:Nm)(A:Option Addr)(n c:Nat)(l:List Vt)(s:Int)(w0:World)(hn:l.length=n)(hr:Rd w0 w0.heap.size A (l.flatMap vtc))(hsm:n<=1000000)(hl:∀v∈l,AW v/\v.slot=s)(hs:(xOf M).testBit s.toNat=true):Calls prog 114 #[.int .i64 M,p.val,.slice A n c] w0 fun e w'=>∃(v:Value) (O:List Vt),e= .returned v/\D0 M p s l O/\O.length<=n/\w'.ownsRow w0.heap.size 46 22 v O.length (O.flatMap vtc)/\Wx w0 w':=by
 obtain⟨wa,hwa⟩:=Wr (w0.alloc (.cells p.cells 24));have hba:Wx w0 wa:=by rw[hwa];exact(AC _ _).alloc (AB _) _
 have y1:AK wa w0.heap.size 0 8=some p.cells:=by rw[hwa];exact(Blk.new w0 _ _).row 8 rfl
 have hsa:wa.heap.size=w0.heap.size+1:=by rw[hwa];simp
 have hCK:=AA (RT p A n c l wa hn ((hr.below hba).more hba.size) hsm);have HL:=AA hl;have HS:=AA hs;have HWa:=AA hwa;clear hn hr hl hs hwa;go_enter func114,ntmps114;go_wp2;go_step3;go_wp2;go_step3;simp only[<-HWa.out];go_wp2_with fail
 refine hCK.out.mono ?_;rintro en w ⟨v0,D,rfl,hD,hDn,hDe,hBm,hbD⟩;have HDe:=AA hDe;clear hDe;have HD:Hid (∀x∈D,x∈l/\(AW x/\x.slot=s)/\x.parent=p):=fun x hx=>⟨(hD x hx).1,HL.out x (hD x hx).1,(hD x hx).2⟩
 obtain⟨A1,c1,rfl,hR1⟩:∃A1 c1,v0= .slice A1 D.length c1/\Rd w w.heap.size A1 (D.flatMap vtc):=by
  rcases hBm.2 with⟨rfl,h0⟩|⟨g,cap,cur,rfl,_⟩
  ·exact⟨none,0,by rw[h0],.inl (AQ (by rw[hBm.1,h0,Nat.zero_mul]))⟩
  ·exact⟨_,cap,rfl,Rd.of_own hBm⟩
 obtain⟨m,hm⟩:=Ws D.length;rw[hm]at hDn ⊢;have HM:=AA hm;have HR:=AA hR1;have yP:Wx w0 w:=hba.trans (hbD.mono hba.size);have hm6:m<=1000000:=by omega
 clear hm hD hBm hR1 y1 hCK;go_wp2
 go_loopw [7,8,15] (fun v fv iv wr=>TH M p s l D w v fv iv wr) (fun _ _ iv _=>m-(intOf iv).toNat)
 case atStart=>exact⟨0,[],rfl,rfl,Nat.zero_le _,AB _,(fun _=>by simp[CP]),⟨NZ.nil M,fun x hx=>by cases hx⟩,⟨by simp,.inl ⟨rfl,rfl⟩⟩,AC _ _,.inl ⟨rfl,rfl⟩⟩
 case round=>
  obtain⟨i,O,rfl,rfl,hin,hOi,hOe,hO,xB,hbw,hDR⟩:=hrel;have HOe:=AA hOe;clear hOe;rw[HM.out]at hin;have HO:=AA hO;have xF:=AA xB;clear hO xB;have hO6:O.length<=1000000:=by omega
  by_cases hi:i<m
  ·have di:=Wu (show i<m by omega)
   obtain⟨x,hx⟩:∃x,D[i]? =some x:=⟨_,AE (by rw[HM.out];exact hi)⟩;obtain⟨b,o,rfl,hb,xH⟩:=HR.out.cells (by intro e;have:=AY vtc 22 D (CI D);rw[e,HM.out]at this;simp at this;omega);clear xH;have x1:AK wr b (o+i*22) 22=some x.cells:=(HR.out.below hbw).voteRow hx;have HX:=AA (HD.out x (AN hx));have HXD:=AA (AN hx);have ya:Hid (SmP p l->∀b,JZ M (Bd (Ae (xOf M) 10)) x O b->CP M (D.take (i+1))=if b=true then O++[x]else O):=fun sm b hb=>by
    rw[Ah,hx,HOe.out sm];rw[HOe.out sm]at hb;exact Nf hb
   clear hx;rcases hDR with⟨rfl,rfl⟩|xp
   ·go_upto_region 6 with(refine AJ rfl 46 (.tmp 10) (.tmp 18) rfl wr.heap.size x.cells rfl rfl 46 Bk.cells (Blk.new wr _ _) (by rfl) (by kernel_rfl) (fun u hu=>BH x hu) ?_;intro w4 hB4 hg4 xb)
    have xJ:Hid (w4.ownsRow w.heap.size 46 22 (.slice none 0 0) 0 (([]:List Vt).flatMap vtc)):=Ba (xF.out.alloc _) hg4 (fun k hk=>by
     injection hk with hk
     subst hk;right;intro e;have:=(xF.out.lt _ e).2;omega)
    have xI:Wx w w4:=(hbw.alloc hbw.size _).grown hg4 (AG hbw.size (by simp)) (Wt hbw.size);have hw4:w4.heap.size=wr.heap.size+1:=by rw[xb];simp
    obtain⟨z,hz⟩:=Wr wr.heap.size;rw[<-hz]at hB4 hw4 ⊢;have x3:AK w4 z 0 22=some x.cells:=hB4.row 22 rfl;have x4:w4.cell? ⟨z,1,none⟩=some (.int .i64 x.slot):=hB4.cell 1;have hz4:z<w4.heap.size:=by omega
    have HRv:Hid (∀V,Wx w4 V->AK V z 0 22=some x.cells):=fun V hV=>(hB4.below hV hz4).row 22 rfl
    clear hg4 xb x1 xF hz hw4;clear hB4;try go_frame
    go_cut[32] (fun bv wx=>bv= .bool false/\∃k,wx=w4.drewN k)
    case first=>
     refine rgD (fun _=>True) (trivial) fun _=>?_
     iterate 5 (refine tkA ?_;go_frame)
     refine skD 24 5 ?_;go_frame;refine skD 25 6 ?_;go_frame;refine skD 26 7 ?_;go_frame;refine skD 27 8 ?_;go_frame;refine skD 28 9 ?_;go_frame;refine skD 29 10 ?_;go_frame;refine skD 30 11 ?_;go_frame;refine skD 31 12 ?_;go_frame;refine tkD 32 13 ?_;go_frame;refine dnD ?_;go_wp2_with fail
     go_meet;exact⟨rfl,1,rfl⟩
    case rest=>
     obtain⟨rfl,k,rfl⟩:=hcut;have xr:Hid ((w4.drewN k).ownsRow w.heap.size 46 22 (.slice none 0 0) 0 (([]:List Vt).flatMap vtc)):=xJ.out;have xS:Wx w (w4.drewN k):=BJ xI k;have xf:Wx w4 (w4.drewN k):=BJ (AC _ _) k;have zZ:Hid (∀V,Below (w4.drewN k).heap.size (w4.drewN k) V->AK V z 0 22=some x.cells):=fun V hV=>HRv.out V (xf.trans (hV.mono xf.size))
     have hz5:z<(w4.drewN k).heap.size:=hz4;clear xJ xI xf HRv x3 x4;generalize w4.drewN k=w5 at*;have HAl:Hid (∀V,Wx w5 V->Calls prog 167 #[.int .i64 M,x.val,.slice none 0 0] V fun e w'=>∃b,e= .returned (.bool b)/\Wx V w'/\JZ M (Bd (Ae (xOf M) 10)) x ([]:List Vt) b):=fun V hV=>
      Ja M 0 none 0 ([]:List Vt) x V rfl Rd.nil (fun t ht=>⟨(HO.out.2 t ht).2.1.1,(HO.out.2 t ht).2.1.2.1,((HO.out.2 t ht).2.2.1).trans HX.out.2.2.symm,((HO.out.2 t ht).2.1.2.2).trans HX.out.2.1.2.symm,(HO.out.2 t ht).2.2.2⟩) (by omega)
       HX.out.2.1.1 (by rw[HX.out.2.1.2];exact HS.out)
     have x6:AK w5 z 0 22=some x.cells:=zZ.out w5 (AC _ _);have hbx:Wx w5 w5:=AC _ _;go_wp2_with fail
     refine rgD (fun w'=>AK w' z 0 22=some x.cells) (zZ.out _ hbx.drew) fun _=>?_
     iterate 5 (refine tkA ?_;go_frame)
     refine rd1 5 fun K hK=>?_
     go_simp;refine(HAl.out _ hbx.drew).mono ?_;rintro en w6 ⟨r,rfl,hb6,hal⟩;have xm:=hbx.drew.trans (hb6.mono (AB _));have HAL:=AA hal;clear hal;go_wp2_with fail
     refine hK.out _ _ (zZ.out _ xm) (fun _=>?_);clear hK K;try go_frame
     refine tkD 41 6 ?_;go_frame;refine dnD ?_;have xh:Wx w w6:=xS.trans (xm.mono xS.size);have yf:Hid (w6.ownsRow w.heap.size 46 22 (.slice none 0 0) 0 (([]:List Vt).flatMap vtc)):=BP xr.out xm (AB _);have x7:AK w6 z 0 22=some x.cells:=zZ.out _ xm;clear xr xS HAl zZ xm hb6 x6 hbx;cases r with
     |false=>
      go_wp2;go_roundw
      case rel=>exact⟨i+1,([]:List Vt),by go_num,rfl,by rw[HM.out];omega,by simp,(fun sm=>by rw[ya.out sm false HAL.out];rfl),HO.out,yf.out,xh,.inl ⟨rfl,rfl⟩⟩
      case measure=>simp[intOf];omega
     |true=>
      go_wp2_with ((first
       |(refine BQ rfl 56 46 (.tmp 43) rfl x.cells rfl underlying56 (by kernel_rfl) (by decide) (by decide) ?_)
       |(at_builtin;refine Ar rfl (.tmp 42) (.tmp 44) _ rfl w.heap.size 46 (.agg Bk.cells) 22 64 underlying56 CE rfl (by decide) (.slice none 0 0) 0 (([]:List Vt).flatMap vtc) rfl ?r0 (w6.heap.size+1) (some ⟨w6.heap.size,0,none⟩) 1 1 (vtc x) rfl ?r1 ?r2 ?r3 ?r4 ?r5 ?r6 ?_)))
      case r0=>exact yf.out.alloc _
      case r1=>rfl
      case r2=>exact Rd.mk (by omega) (fun j u hu=>by rw[Nat.zero_add,(Blk.new w6 _ _).cell];simpa using hu)
      case r3=>exact fun u hu=>BH x hu
      case r4=>omega
      case r5=>unfold maxLen;omega
      case r6=>have:=xh.size;simp;omega
      intro v7 w7 xE hg7 xo;have yL:Wx w w7:=BO (xh.alloc xh.size _) (yf.out.alloc _) hg7;have xO:=AA xE;clear xE hg7 xo x7 yf;go_wp2;go_roundw
      case rel=>
       refine⟨i+1,([]:List Vt)++[x],by go_num,rfl,by rw[HM.out];omega,by rw[AI];simp,(fun sm=>by rw[ya.out sm true HAL.out];rfl),⟨HO.out.1.snoc (HAL.out.2 (HAL.out.1 rfl)),?_⟩,?_,yL,.inr (by rw[AI];simp)⟩
       ·intro t ht;rcases AP.1 ht with ht|ht
        ·exact HO.out.2 t ht
        ·rw[AM.1 ht];exact⟨HXD.out,⟨HX.out.2.1.1,HAL.out.1 rfl,HX.out.2.1.2⟩,HX.out.2.2,Kt (HAL.out.2 (HAL.out.1 rfl))⟩
       ·have h:=xO.out;rw[AI,Af];simpa using h
      case measure=>simp[intOf];omega
   ·obtain⟨g,cap,T,rfl,hg,xZ,zm⟩:∃g cap T,u7= .slice (some ⟨g,0,none⟩) O.length cap/\w.heap.size<=g/\Blk wr g 46 (O.flatMap vtc++T).toArray/\O.length<=cap:=by
     rcases Fm xF.out with⟨_,h0,_⟩|h
     ·omega
     ·exact h
    go_upto_region 6 with(refine AJ rfl 46 (.tmp 10) (.tmp 18) rfl wr.heap.size x.cells rfl rfl 46 Bk.cells (Blk.new wr _ _) (by rfl) (by kernel_rfl) (fun u hu=>BH x hu) ?_;intro w4 hB4 hg4 xb)
    have xJ:Hid (w4.ownsRow w.heap.size 46 22 (.slice (some ⟨g,0,none⟩) O.length cap) O.length (O.flatMap vtc)):=Ba (xF.out.alloc _) hg4 (fun k hk=>by
     injection hk with hk
     subst hk;right;intro e;have:=(xF.out.lt _ e).2;omega)
    have xI:Wx w w4:=(hbw.alloc hbw.size _).grown hg4 (AG hbw.size (by simp)) (Wt hbw.size);have hw4:w4.heap.size=wr.heap.size+1:=by rw[xb];simp
    obtain⟨z,hz⟩:=Wr wr.heap.size;rw[<-hz]at hB4 hw4 ⊢;have x3:AK w4 z 0 22=some x.cells:=hB4.row 22 rfl;have x4:w4.cell? ⟨z,1,none⟩=some (.int .i64 x.slot):=hB4.cell 1;have hz4:z<w4.heap.size:=by omega
    have HRv:Hid (∀V,Wx w4 V->AK V z 0 22=some x.cells):=fun V hV=>(hB4.below hV hz4).row 22 rfl
    clear xb x1 xF hz hw4;have HG4:Hid (Blk w4 g 46 (O.flatMap vtc++T).toArray):=(xZ.alloc _).kept hg4 (by intro e;injection e with e;have:=xZ.lt;omega);clear hg4 xZ;obtain⟨y,hy⟩:∃y,O[0]? =some y:=⟨_,AE xp⟩;have hGI:y.slot=x.slot:=((HO.out.2 y (AN hy)).2.1.2.2).trans HX.out.2.1.2.symm;have x5:w4.cell? ⟨g,1,none⟩=some (.int .i64 x.slot):=by
     have h:=EP (c:=⟨vtc,T⟩) (m:=22) (fun _=>rfl) HG4.out 0 1 y (.int .i64 y.slot) hy rfl;rw[<-hGI];simpa using h
    have hgz:g<w4.heap.size:=HG4.out.lt;clear hy hGI;clear hB4;have dl:decide (0<(O.length:Int))=true:=by simp;omega
    have dn:(x.slot !=x.slot)=false:=by simp
    have hGJ:Hid (w4.cell? ⟨z,1,none⟩=some (.int .i64 x.slot)/\w4.cell? ⟨g,1,none⟩=some (.int .i64 x.slot)):=⟨x4,x5⟩;obtain⟨nO,hnO⟩:=Ws O.length;rw[hnO]at zm dl hO6 xp hOi ⊢;have dl2:decide (0<nO)=true:=by simp;omega
    have HNO:=AA hnO;clear hnO;try go_frame
    go_cut[32] (fun bv wx=>bv= .bool false/\∃k,wx=w4.drewN k)
    case first=>
     refine rgD (fun w'=>w'.cell? ⟨z,1,none⟩=some (.int .i64 x.slot)/\w'.cell? ⟨g,1,none⟩=some (.int .i64 x.slot)) (hGJ.out) fun _=>?_
     iterate 14 (refine tkA ?_;go_frame)
     refine dnD ?_;go_wp2_with fail
     go_meet;exact⟨rfl,1,rfl⟩
    case rest=>
     obtain⟨rfl,k,rfl⟩:=hcut;have xr:Hid ((w4.drewN k).ownsRow w.heap.size 46 22 (.slice (some ⟨g,0,none⟩) O.length cap) O.length (O.flatMap vtc)):=xJ.out;have xS:Wx w (w4.drewN k):=BJ xI k;have xf:Wx w4 (w4.drewN k):=BJ (AC _ _) k;have zZ:Hid (∀V,Below (w4.drewN k).heap.size (w4.drewN k) V->AK V z 0 22=some x.cells):=fun V hV=>HRv.out V (xf.trans (hV.mono xf.size))
     have hz5:z<(w4.drewN k).heap.size:=hz4;clear xJ xI xf HRv x3 x4;clear HG4 x5 hGJ hgz;generalize w4.drewN k=w5 at*;have HAl:Hid (∀V,Wx w5 V->Calls prog 167 #[.int .i64 M,x.val,.slice (some ⟨g,0,none⟩) nO cap] V fun e w'=>∃b,e= .returned (.bool b)/\Wx V w'/\JZ M (Bd (Ae (xOf M) 10)) x O b):=fun V hV=>
      Ja M nO (some ⟨g,0,none⟩) cap O x V HNO.out ((Rd.of_own (HNO.out▸xr.out)).below hV|>.more hV.size) (fun t ht=>⟨(HO.out.2 t ht).2.1.1,(HO.out.2 t ht).2.1.2.1,((HO.out.2 t ht).2.2.1).trans HX.out.2.2.symm,((HO.out.2 t ht).2.1.2.2).trans HX.out.2.1.2.symm,(HO.out.2 t ht).2.2.2⟩) (by omega)
       HX.out.2.1.1 (by rw[HX.out.2.1.2];exact HS.out)
     have x6:AK w5 z 0 22=some x.cells:=zZ.out w5 (AC _ _);have hbx:Wx w5 w5:=AC _ _;go_wp2_with fail
     refine rgD (fun w'=>AK w' z 0 22=some x.cells) (zZ.out _ hbx.drew) fun _=>?_
     iterate 5 (refine tkA ?_;go_frame)
     refine rd1 5 fun K hK=>?_
     go_simp;refine(HAl.out _ hbx.drew).mono ?_;rintro en w6 ⟨r,rfl,hb6,hal⟩;have xm:=hbx.drew.trans (hb6.mono (AB _));have HAL:=AA hal;clear hal;go_wp2_with fail
     refine hK.out _ _ (zZ.out _ xm) (fun _=>?_);clear hK K;try go_frame
     refine tkD 41 6 ?_;go_frame;refine dnD ?_;have xh:Wx w w6:=xS.trans (xm.mono xS.size);have yf:Hid (w6.ownsRow w.heap.size 46 22 (.slice (some ⟨g,0,none⟩) O.length cap) O.length (O.flatMap vtc)):=BP xr.out xm (AB _);have x7:AK w6 z 0 22=some x.cells:=zZ.out _ xm;clear xr xS HAl zZ xm hb6 x6 hbx;cases r with
     |false=>
      go_wp2;go_roundw
      case rel=>exact⟨i+1,O,by go_num,rfl,by rw[HM.out];omega,by rw[HNO.out];omega,(fun sm=>by rw[ya.out sm false HAL.out];rfl),HO.out,(by have h:=yf.out;rw[HNO.out]at h ⊢;exact h),xh,.inr (by rw[HNO.out];omega)⟩
      case measure=>simp[intOf];omega
     |true=>
      go_wp2_with ((first
       |(refine BQ rfl 56 46 (.tmp 43) rfl x.cells rfl underlying56 (by kernel_rfl) (by decide) (by decide) ?_)
       |(at_builtin;refine Ar rfl (.tmp 42) (.tmp 44) _ rfl w.heap.size 46 (.agg Bk.cells) 22 64 underlying56 CE rfl (by decide) (.slice (some ⟨g,0,none⟩) nO cap) nO (O.flatMap vtc) rfl ?r0 (w6.heap.size+1) (some ⟨w6.heap.size,0,none⟩) 1 1 (vtc x) rfl ?r1 ?r2 ?r3 ?r4 ?r5 ?r6 ?_)))
      case r0=>exact(HNO.out▸yf.out.alloc _)
      case r1=>rfl
      case r2=>exact Rd.mk (by omega) (fun j u hu=>by rw[Nat.zero_add,(Blk.new w6 _ _).cell];simpa using hu)
      case r3=>exact fun u hu=>BH x hu
      case r4=>omega
      case r5=>unfold maxLen;omega
      case r6=>have:=xh.size;simp;omega
      intro v7 w7 xE hg7 xo;have yL:Wx w w7:=BO (xh.alloc xh.size _) (yf.out.alloc _) hg7;have xO:=AA xE;clear xE hg7 xo x7 yf;go_wp2;go_roundw
      case rel=>
       refine⟨i+1,O++[x],by go_num,rfl,by rw[HM.out];omega,by rw[AI,HNO.out];simp;omega,(fun sm=>by rw[ya.out sm true HAL.out];rfl),⟨HO.out.1.snoc (HAL.out.2 (HAL.out.1 rfl)),?_⟩,?_,yL,.inr (by rw[AI];simp)⟩
       ·intro t ht;rcases AP.1 ht with ht|ht
        ·exact HO.out.2 t ht
        ·rw[AM.1 ht];exact⟨HXD.out,⟨HX.out.2.1.1,HAL.out.1 rfl,HX.out.2.1.2⟩,HX.out.2.2,Kt (HAL.out.2 (HAL.out.1 rfl))⟩
       ·have h:=xO.out;rw[AI,Af];simpa[HNO.out]using h
      case measure=>simp[intOf];omega
  ·have di:=Wv (show m<=i by omega)
   clear hDR;go_wp2;rw[Exit.noGoto_ret];go_ret;exact⟨u7,O,rfl,⟨⟨HO.out.1,fun y hy=>⟨(HD.out y (HO.out.2 y hy).1).1,(HO.out.2 y hy).2⟩⟩,fun sm=>(by have h:=HOe.out sm;rw[AT (by rw[HM.out];omega),HDe.out sm]at h;exact h)⟩,by omega,BS xF.out yP.size,yP.trans (hbw.mono yP.size)⟩
end
section
open Go.RowKit Go.Shelf
attribute [local go_sem ↓] Go.wp_at_zero Go.wp_at_succ Aq Au Av Aw Ij
attribute [local go_sem] BE BL BM BN LG AR AX AU
def SmO(p:Nm)(l:List Vt):Prop:=Fe (l.filter fun s=>decide (s.parent=p))
theorem Fe.sub{D D':List Vt}(h:Fe D)(hs:List.Sublist D' D):Fe D':=by
 rcases h with h|h
 ·exact .inl (AG hs.length_le h)
 ·exact .inr (h.sublist hs)
theorem RV{p:Nm}{s:Nat}{l:List Vt}(h:SmO p l):Fe ((slF s l).filter fun s=>decide (s.parent=p)):=by
 refine h.sub ?_;unfold slF;rw[List.filter_filter,show(fun x:Vt=>decide (x.parent=p)&&(decide (x.slot=(s:Int))&&decide (x.kind<=4)))=fun x=>(decide (x.slot=(s:Int))&&decide (x.kind<=4))&&decide (x.parent=p)from funext fun x=>Bool.and_comm _ _,<-List.filter_filter];exact List.filter_sublist
def He(M:Int)(p:Nm)(s:Nat)(l:List Vt)(L:List Oc):Prop:=
 ∃O:List Vt,RG M p (s:Int) l O/\(∀o∈L,o.slot=(s:Int)/\Kk (xOf M) O o.round o.choice o.value)/\
  (SmO p l->O=CP M (EX p (slF s l))/\∀x∈O,x.kind=4->x.choice≠2->kyO s x∈L∨RQ M s O x)
def Jc(M:Int)(p:Nm)(s:Nat)(l:List Vt)(w:World)(e:Ending)(w':World):Prop:=
 ∃(v:Value) (L:List Oc),e= .returned v/\He M p s l L/\L.length<=l.length/\w'.ownsRow w.heap.size 142 11 v L.length (L.flatMap occ)/\Wx w w'
theorem MP(M:Int)(p:Nm)(A:Option Addr)(n c:Nat)(l:List Vt)(s:Nat)(w0:World)(hn:l.length=n)(hr:Rd w0 w0.heap.size A (l.flatMap vtc))(hsm:n<=1000000)(hl:∀v∈l,AW v)(hs:(xOf M).testBit s=true):Calls prog 79 #[.int .i64 M,p.val,.slice A n c,.int .i64 (s:Int)] w0 (Jc M p s l w0):=by
 obtain⟨w,hw⟩:=Wr (w0.alloc (.cells p.cells 24));have hb0:Wx w0 w:=by rw[hw];exact(AC _ _).alloc (AB _) _
 have hBq:Blk w w0.heap.size 24 p.cells:=by rw[hw];exact Blk.new w0 _ _
 obtain⟨q,hq⟩:=Wr w0.heap.size;have HN:=AA hn;have HR:=AA ((hr.below hb0).more hb0.size);have HL:=AA hl;have HS:=AA hs;have HW:=AA hw;rw[<-hq]at hBq;have HBq:=AA hBq;have hqw:q<w.heap.size:=hBq.lt;have HQ:=AA hq;obtain⟨nq,hnq⟩:=Wr (Ae (xOf M) 10);have hGK:nq<=10:=by rw[hnq];exact Eh _ 10
 have HSz:Hid (∀X W,Calls prog 15 #[.int .i64 X] W fun e w'=>e= .returned (.int .i64 ((Ae (xOf X) 10:Nat):Int))/\w'=W):=fun X W=>Cd X W
 have hGL:Hid (∀W,Calls prog 15 #[.int .i64 M] W fun e w'=>e= .returned (.int .i64 (nq:Int))/\w'=W):=fun W=>by rw[hnq];exact Cd M W
 have HQu:Hid (∀W,Calls prog 115 #[.int .i64 (nq:Int)] W fun e w'=>e= .returned (.int .i64 ((Bd nq:Nat):Int))/\w'=W):=fun W=>FZ nq hGK W
 have HNq:=AA hnq;have zC:=AA (fun W W' pb v D h1 h2 h3 h4=>TD W W' pb v D h1 h2 h3 h4);clear hn hr hl hs hw hBq hq hnq;have hmk:∀W:World,(Instr.makeMap 178 none).run prog W= .ok (.map (some W.heap.size)) (W.alloc (.map #[] 0)):=fun W=>rfl
 go_enter func79,ntmps79;go_upto_region 1 with fail
 simp only[<-HW.out,<-HQ.out];go_wp2
 go_loopw [9,20] (fun v iv wr=>Vw l s w v iv wr) (fun _ iv _=>n-(intOf iv).toNat)
 case atStart=>exact⟨0,[],rfl,Nat.zero_le _,Nat.zero_le _,by simp[slF],⟨by simp,.inl ⟨rfl,rfl⟩⟩,AC _ _⟩
 case round=>
  obtain⟨i,D,rfl,hin,hDi,hD,xB,hbw⟩:=hrel;rw[HN.out]at hin;have HDe:=AA hD;have HD:Hid (∀x∈D,x∈l/\x.slot=(s:Int)/\x.kind<=4):=fun x hx=>by rw[hD]at hx;have h:=LU hx;exact⟨List.mem_of_mem_take h.1,h.2⟩
  have xF:=AA xB;have hD6:D.length<=1000000:=by omega
  clear hD xB;by_cases hi:i<n
  ·have di:=Wu (show i<n by omega)
   obtain⟨x,hx⟩:∃x,l[i]? =some x:=⟨_,AE (by rw[HN.out];exact hi)⟩;obtain⟨b,o,rfl,hb,xH⟩:=HR.out.cells (by intro e;have:=AY vtc 22 l (CI l);rw[e,HN.out]at this;simp at this;omega);clear xH;have x1:AK wr b (o+i*22) 22=some x.cells:=(HR.out.below hbw).voteRow hx;have HXx:=AA hx;clear hx;go_upto_region 5 with(refine AJ rfl 46 (.tmp 11) (.tmp 23) rfl wr.heap.size x.cells rfl rfl 46 Bk.cells (Blk.new wr _ _) (by rfl) (by kernel_rfl) (fun u hu=>BH x hu) ?_;intro w4 hB4 hg4 xb)
   have xJ:Hid (w4.ownsRow w.heap.size 46 22 u9 D.length (D.flatMap vtc)):=Ba (xF.out.alloc _) hg4 (fun k hk=>by
    injection hk with hk
    subst hk;right;intro e;have:=(xF.out.lt _ e).2;omega)
   have xI:Wx w w4:=(hbw.alloc hbw.size _).grown hg4 (AG hbw.size (by simp)) (Wt hbw.size);obtain⟨z,hz⟩:=Wr wr.heap.size;rw[<-hz]at hB4 ⊢;have x3:AK w4 z 0 22=some x.cells:=hB4.row 22 rfl;have x4:w4.cell? ⟨z,1,none⟩=some (.int .i64 x.slot):=hB4.cell 1;have x5:w4.cell? ⟨z,0,none⟩=some (.int .i64 x.kind):=hB4.cell 0;clear hB4 hg4 xb x1 hz xF hbw;try go_frame
   by_cases h1:x.slot=(s:Int)
   ·have e1:(x.slot==(s:Int))=true:=by rw[h1];exact beq_self_eq_true _
    have HSl:=AA h1;clear h1;by_cases h2:x.kind<=4
    ·have e2:decide (x.kind<=4)=true:=by simpa using h2
     have HK:=AA h2;clear h2;go_wp2_with ((first
      |(refine BQ rfl 56 46 (.tmp 34) rfl x.cells rfl underlying56 (by kernel_rfl) (by decide) (by decide) ?_)
      |(at_builtin;refine Ar rfl (.tmp 33) (.tmp 35) _ rfl w.heap.size 46 (.agg Bk.cells) 22 64 underlying56 CE rfl (by decide) u9 D.length (D.flatMap vtc) rfl ?r0 (w4.heap.size+1) (some ⟨w4.heap.size,0,none⟩) 1 1 (vtc x) rfl ?r1 ?r2 ?r3 ?r4 ?r5 ?r6 ?_)))
     case r0=>exact xJ.out.alloc _
     case r1=>rfl
     case r2=>exact Rd.mk (by omega) (fun j u hu=>by rw[Nat.zero_add,(Blk.new w4 _ _).cell];simpa using hu)
     case r3=>exact fun u hu=>BH x hu
     case r4=>omega
     case r5=>unfold maxLen;omega
     case r6=>have:=xI.size;simp;omega
     intro v7 w7 xE hg7 xo;have yL:Wx w w7:=BO (xI.alloc xI.size _) (xJ.out.alloc _) hg7;have xO:=AA xE;clear xE hg7 xo x3 x4 x5 xJ;go_wp2;go_roundw
     case rel=>
      refine⟨i+1,D++[x],by go_num,by rw[HN.out];omega,by rw[AI];simp;omega,?_,?_,yL⟩
      ·rw[TF HXx.out HSl.out HK.out,<-HDe.out]
      ·have h:=xO.out;rw[AI,Af];simpa using h
     case measure=>simp[intOf];omega
    ·have e2:decide (x.kind<=4)=false:=by simpa using h2
     have HK:=AA h2;clear h2;go_wp2;go_roundw
     case rel=>exact⟨i+1,D,by go_num,by rw[HN.out];omega,by omega,(by rw[RO HXx.out HK.out];exact HDe.out),xJ.out,xI⟩
     case measure=>simp[intOf];omega
   ·have e1:(x.slot==(s:Int))=false:=by simpa using h1
    have HSl:=AA h1;clear h1;go_wp2;go_roundw
    case rel=>exact⟨i+1,D,by go_num,by rw[HN.out];omega,by omega,(by rw[RP HXx.out HSl.out];exact HDe.out),xJ.out,xI⟩
    case measure=>simp[intOf];omega
  ·have di:=Wv (show n<=i by omega)
   have hDn:D.length<=n:=by omega
   obtain⟨m,hm⟩:=Wr wr.heap.size;obtain⟨wm,hwm⟩:=Wr (wr.alloc (.map #[] 0));have hmp:Bj Oc.val wm m []:=by rw[hwm,hm];exact Bj.new Oc.val wr
   have hbm:Wx w wm:=by rw[hwm];exact hbw.alloc hbw.size _
   have hBo:wm.ownsRow w.heap.size 46 22 u9 D.length (D.flatMap vtc):=by rw[hwm];exact xF.out.alloc _
   have hmm:m<wm.heap.size:=hmp.is.lt;obtain⟨A1,c1,hu9,hR1⟩:∃A1 c1,u9= .slice A1 D.length c1/\Rd wm wm.heap.size A1 (D.flatMap vtc):=by
    rcases hBo.2 with⟨rfl,h0⟩|⟨g,cap,cur,rfl,_⟩
    ·exact⟨none,0,by rw[h0],.inl (AQ (by rw[hBo.1,h0,Nat.zero_mul]))⟩
    ·exact⟨_,cap,rfl,Rd.of_own hBo⟩
   subst hu9;have yk:D=slF s l:=by
    have h:=HDe.out;rw[AT (by rw[HN.out];omega)]at h;exact h
   have hGM:=Jb M p A1 D.length c1 D (s:Int) wm rfl hR1 hD6 (fun v hv=>⟨HL.out v (HD.out v hv).1,(HD.out v hv).2.1⟩) (by simpa using HS.out);have yV:=AA yk;have za:=AA hGM;have HWm:=AA hwm;have HM:=AA hm;have HMp:=AA hmp;have y1:AK wm q 0 8=some p.cells:=(HBq.out.below hbm hqw).row 8 rfl;obtain⟨nD,hnD⟩:=Wr D.length;rw[<-hnD]at za hDn;have HND:=AA hnD;clear hGM hmp hwm hm hBo hR1 xF hD6 hDi yk;rw[<-HND.out];clear hnD;go_upto_region 9 with fail
   simp only[<-HWm.out,<-HM.out];go_wp2_with fail
   refine za.out.mono ?_;rintro en w3 ⟨v3,O,rfl,⟨hO,hOe⟩,hOn,xC,hb3⟩;have HOe:Hid (SmO p l->O=CP M (EX p (slF s l))):=fun sm=>by rw[hOe (by rw[yV.out];exact RV sm),yV.out]
   clear hOe;have HO:Hid (RG M p (s:Int) l O):=⟨hO.1,fun x hx=>⟨(HD.out x (hO.2 x hx).1).1,(hO.2 x hx).2⟩⟩;have hDS:Hid (Bj Oc.val w3 m []):=HMp.out.below hb3 hmm;have xT:Wx w w3:=hbm.trans (hb3.mono hbm.size);obtain⟨A3,c3,rfl,hR3⟩:∃A1 c1,v3= .slice A1 O.length c1/\(O.flatMap vtc=[]∨∃g,A1=some ⟨g,0,none⟩/\wm.heap.size<=g/\∃T,Blk w3 g 46 (O.flatMap vtc++T).toArray):=by
    rcases Fm xC with⟨rfl,h0,h1⟩|⟨g,cap,T,rfl,h1,h2,_⟩
    ·exact⟨none,0,by rw[h0],.inl h1⟩
    ·exact⟨_,cap,rfl,.inr ⟨g,rfl,h1,T,h2⟩⟩
   obtain⟨nO,hnO⟩:=Wr O.length;rw[<-hnO]at hOn ⊢;have HNO:Hid (O.length=nO):=hnO.symm;have HR3:=AA hR3;clear hO xC hR3 hnO za HMp y1;go_wp2
   go_loopw [44] (fun iv wr=>Vx M s O m w3 iv wr) (fun iv _=>nO-(intOf iv).toNat)
   case atStart=>exact⟨0,[],rfl,Nat.zero_le _,AB _,Cu.nil _ _ _,(fun x hx=>by simp at hx),hDS.out,Al w3 m⟩
   case round=>
    obtain⟨i2,kl,rfl,hBJ,hkl,hmk,hcp,zY,hgr⟩:=hrel;have HCp:=AA hcp;clear hcp;rw[HNO.out]at hBJ;have HMk:=AA hmk;have yq:=AA zY;have HGr:=AA hgr;clear hmk zY hgr;by_cases hi2:i2<nO
    ·have di2:=Wu (show i2<nO by omega)
     obtain⟨x,hx⟩:∃x,O[i2]? =some x:=⟨_,AE (by rw[HNO.out];exact hi2)⟩;obtain⟨g,rfl,hgm,T,hT⟩:∃g,A3=some ⟨g,0,none⟩/\wm.heap.size<=g/\∃T,Blk w3 g 46 (O.flatMap vtc++T).toArray:=by
      rcases HR3.out with h|h
      ·have:=AY vtc 22 O (CI O);rw[h,HNO.out]at this;simp at this;omega
      ·exact h
     have hTr:Blk wr g 46 (O.flatMap vtc++T).toArray:=hT.kept HGr.out (by intro e;injection e with e;omega);have x1:AK wr g (i2*22) 22=some x.cells:=Bv.vt (T:=T) (w0:=wr) ⟨hTr,Al wr g⟩ hx;have hxO:x∈O:=AN hx;have HXi:=AA hx;have HXO:=AA hxO;have HXv:=AA (HO.out.2 x hxO);have hmw:m<wr.heap.size:=yq.out.is.lt;clear hx hTr hT hxO;go_upto_region 12 with(refine AJ rfl 46 (.tmp 14) (.tmp 47) rfl wr.heap.size x.cells rfl rfl 46 Bk.cells (Blk.new wr _ _) (by rfl) (by kernel_rfl) (fun u hu=>BH x hu) ?_;intro w4 hB4 hg4 xb)
     have zF:Hid (w3.grownBy w4 (some m)):=(Bm HGr.out _).andThen hg4 (Wt (.inl HGr.out.size));have yA:Hid (Bj Oc.val w4 m kl):=(yq.out.alloc _).kept hg4 (by intro e;injection e with e;omega);obtain⟨z,hz⟩:=Wr wr.heap.size;rw[<-hz]at hB4 ⊢;have hzm:z≠m:=by omega
     have hAX:m<w4.heap.size:=yA.out.is.lt;have x4:w4.cell? ⟨z,0,none⟩=some (.int .i64 x.kind):=hB4.cell 0;have x5:w4.cell? ⟨z,3,none⟩=some (.int .i64 x.choice):=hB4.cell 3;have HB4:=AA hB4;clear hg4 xb x1 hz yq HGr hmw hB4;try go_frame
     by_cases h1:x.kind=4
     ·have e1:(x.kind==4)=true:=by rw[h1];rfl
      have HK:=AA h1;clear h1;by_cases h2:x.choice=2
      ·have e2:(x.choice !=2)=false:=by rw[h2];rfl
       have HCC:=AA h2;clear h2;go_wp2;go_roundw
       case rel=>exact⟨i2+1,kl,by go_num,by rw[HNO.out];omega,by omega,HMk.out,(Ds.skip HCp.out HXi.out (.inr HCC.out)),yA.out,zF.out⟩
       case measure=>simp[intOf];omega
      ·have e2:(x.choice !=2)=true:=by simpa using h2
       have HC:=AA h2;clear h2;obtain⟨sn,yw,hsn⟩:∃sn:Nat,sn<=9/\x.signer=(sn:Int):=by
        obtain⟨hv,_⟩:=HXv.out.2.1;have h9:=hv.2.1;exact⟨x.signer.toNat,by omega,by omega⟩
       obtain⟨k,hk⟩:∃k:Oc,k=⟨(s:Int),x.round,x.choice,x.value⟩:=⟨_,rfl⟩;have HKk:=AA hk;have HMb:Hid ((xOf M).testBit sn=true):=by
        have h:=HXv.out.2.2.2;rw[hsn]at h;unfold Hid;simpa using h
       have HSn:=AA hsn;have xq:Hid (∀V,Blk V z 46 x.cells->V.cell? ⟨z,2,none⟩=some (.int .i64 x.round)/\V.cell? ⟨z,3,none⟩=some (.int .i64 x.choice)/\AK V z 14 8=some x.value.cells/\V.cell? ⟨z,4,none⟩=some (.int .i64 (sn:Int))):=fun V hV=>⟨hV.cell 2,hV.cell 3,x.row_value hV,by rw[<-hsn];exact hV.cell 4⟩
       clear hk hsn;go_wp2_with fail
       refine rgD (fun V=>V.cell? ⟨z,2,none⟩=some (.int .i64 x.round)/\V.cell? ⟨z,3,none⟩=some (.int .i64 x.choice)/\AK V z 14 8=some x.value.cells/\V.cell? ⟨z,4,none⟩=some (.int .i64 (sn:Int))) (xq.out _ HB4.out.drew) fun _=>?_
       iterate 8 (refine tkA ?_;go_frame)
       refine tkV 64 8 ((Oc.mk (s:Int) x.round x.choice x.value).val) (fun wq _=>MM (s:Int) x.round x.choice x.value (.tmp 57) (.tmp 59) (.tmp 61) (.tmp 63) rfl rfl rfl rfl rfl wq) ?_;go_frame;refine tkD 66 10 ?_;go_frame;refine tkD 67 11 ?_;go_frame;refine tkV 68 12 (.int .i64 ((2^sn:Nat):Int)) (fun wq _=>Hb (.tmp 67) sn rfl rfl yw wq) ?_;go_frame;refine wpAnyH_ready (rs:=[9,14]) (by kernel_rfl) (by simp) ?_;refine AllReadyH.cons rfl (fun K hK=>?_) (AllReadyH.cons rfl (fun K hK=>?_) AllReadyH.nil)
       ·obtain⟨S,hS1,hS2⟩:=HMk.out.look k;have HS1:=AA hS1;have HS2:=AA hS2;have yh:S<1024:=hS2.1;clear hS1 hS2;rw[if_pos (by rfl)];refine B9 (.int .i64 (S:Int)) ((Ku (.tmp 56) (.tmp 64) rfl m k rfl (by rw[HKk.out];rfl) (w:=w4.drew) (yA.out.below (AC w4.heap.size w4).drew hAX)).trans (by rw[HS1.out])) ?_;refine hK.out _ _ (xq.out _ HB4.out.drew) (fun _=>?_);clear hK K;try go_frame
        refine tkV 69 13 (.int .i64 ((S|||2^sn:Nat):Int)) (fun wq _=>Hc (.tmp 65) (.tmp 68) S sn rfl rfl rfl yh yw wq) ?_;go_frame;refine rd1 14 fun K hK=>?_
        rw[if_pos (by rfl)];refine Od (.tmp 56) (.tmp 64) rfl m k rfl (by rw[HKk.out];rfl) (w:=w4.drew) (yA.out.below (AC w4.heap.size w4).drew hAX) ?_;intro w5 b5 v5 kl5 hE5 hA5 hU5 hl5 hg5 hs5;have HA5:=AA hA5;clear hA5;have HB5:Hid (Blk w5 z 46 x.cells):=(HB4.out.drew).kept hg5 (by intro e;injection e with e;exact hzm e);have HE5:=AA hE5;have hDT:Hid (Cu M (s:Int) O kl5):=Cu.upd (S:=0) HMk.out hU5 (by rw[HKk.out]) (by rw[HKk.out];exact HC.out) (DO.zero M O k);clear hE5 hU5;refine hK.out _ _ (xq.out _ HB5.out) (fun _=>?_);clear hK K;try go_frame
        refine tkD 71 15 ?_;go_frame;refine rd1 16 fun K hK=>?_
        rw[if_pos (by rfl)];refine Oe (.tmp 56) (.tmp 71) (.tmp 69) rfl m b5 k (.int .i64 ((S|||2^sn:Nat):Int)) rfl rfl rfl (w:=w5) HE5.out ?_;intro w6 kl6 hK6 hM6 hU6 hl6 hg6 hs6;have HK6:=AA hK6;clear hK6;have HB6:Hid (Blk w6 z 46 x.cells):=HB5.out.kept hg6 (by intro e;injection e with e;exact hzm e);have HM6:=AA hM6;clear hM6;refine hK.out _ _ (xq.out _ HB6.out) (fun _=>?_);clear hK K;try go_frame
        refine dnD ?_;have hBO:w3.grownBy w6 (some m):=((BZ zF.out).trans hg5).trans hg6;have hEW:Hid (Cu M (s:Int) O kl6):=hDT.out.upd hU6 (by rw[HKk.out]) (by rw[HKk.out];exact HC.out) (HS2.out.or yw HMb.out ⟨x,HXO.out,HSn.out,HK.out,by rw[HKk.out],by rw[HKk.out],by rw[HKk.out]⟩);have hCd:kl6.length<=i2+1:=by omega
        have hEX:Hid (Ds s (O.take (i2+1)) kl6):=Ds.step HKk.out HCp.out HXi.out HSn.out HK6.out HA5.out HS1.out;clear hU6;go_wp2_with fail
        go_roundw
        case rel=>exact⟨i2+1,kl6,by go_num,by rw[HNO.out];omega,hCd,hEW.out,hEX.out,HM6.out,hBO⟩
        case measure=>simp[intOf];omega
       ·rw[if_pos (by rfl)];refine Od (.tmp 56) (.tmp 64) rfl m k rfl (by rw[HKk.out];rfl) (w:=w4.drew) (yA.out.below (AC w4.heap.size w4).drew hAX) ?_;intro w5 b5 v5 kl5 hE5 hA5 hU5 hl5 hg5 hs5;have HA5:=AA hA5;clear hA5;have HB5:Hid (Blk w5 z 46 x.cells):=(HB4.out.drew).kept hg5 (by intro e;injection e with e;exact hzm e);have HE5:=AA hE5;have hDT:Hid (Cu M (s:Int) O kl5):=Cu.upd (S:=0) HMk.out hU5 (by rw[HKk.out]) (by rw[HKk.out];exact HC.out) (DO.zero M O k);clear hE5 hU5;refine hK.out _ _ (xq.out _ HB5.out) (fun _=>?_);clear hK K;try go_frame
        obtain⟨S,hS1,hS2⟩:=hDT.out.look k;have HS1:=AA hS1;have HS2:=AA hS2;have yh:S<1024:=hS2.1;clear hS1 hS2;refine tkD 71 15 ?_;go_frame;refine rd1 9 fun K hK=>?_
        rw[if_pos (by rfl)];refine B9 (.int .i64 (S:Int)) ((Ku (.tmp 56) (.tmp 64) rfl m k rfl (by rw[HKk.out];rfl) (w:=w5) HE5.out.isB).trans (by rw[HS1.out])) ?_;refine hK.out _ _ (xq.out _ HB5.out) (fun _=>?_);clear hK K;try go_frame
        refine tkV 69 13 (.int .i64 ((S|||2^sn:Nat):Int)) (fun wq _=>Hc (.tmp 65) (.tmp 68) S sn rfl rfl rfl yh yw wq) ?_;go_frame;refine rd1 16 fun K hK=>?_
        rw[if_pos (by rfl)];refine Oe (.tmp 56) (.tmp 71) (.tmp 69) rfl m b5 k (.int .i64 ((S|||2^sn:Nat):Int)) rfl rfl rfl (w:=w5) HE5.out ?_;intro w6 kl6 hK6 hM6 hU6 hl6 hg6 hs6;have HK6:=AA hK6;clear hK6;have HB6:Hid (Blk w6 z 46 x.cells):=HB5.out.kept hg6 (by intro e;injection e with e;exact hzm e);have HM6:=AA hM6;clear hM6;refine hK.out _ _ (xq.out _ HB6.out) (fun _=>?_);clear hK K;try go_frame
        refine dnD ?_;have hBO:w3.grownBy w6 (some m):=((BZ zF.out).trans hg5).trans hg6;have hEW:Hid (Cu M (s:Int) O kl6):=hDT.out.upd hU6 (by rw[HKk.out]) (by rw[HKk.out];exact HC.out) (HS2.out.or yw HMb.out ⟨x,HXO.out,HSn.out,HK.out,by rw[HKk.out],by rw[HKk.out],by rw[HKk.out]⟩);have hCd:kl6.length<=i2+1:=by omega
        have hEX:Hid (Ds s (O.take (i2+1)) kl6):=Ds.step HKk.out HCp.out HXi.out HSn.out HK6.out HA5.out (by have h:=HS1.out;rw[HA5.out k,if_pos rfl,Option.getD_some]at h;exact h);clear hU6;go_wp2_with fail
        go_roundw
        case rel=>exact⟨i2+1,kl6,by go_num,by rw[HNO.out];omega,hCd,hEW.out,hEX.out,HM6.out,hBO⟩
        case measure=>simp[intOf];omega
     ·have e1:(x.kind==4)=false:=by simpa using h1
      have HKK:=AA h1;clear h1;go_wp2;go_roundw
      case rel=>exact⟨i2+1,kl,by go_num,by rw[HNO.out];omega,by omega,HMk.out,(Ds.skip HCp.out HXi.out (.inl HKK.out)),yA.out,zF.out⟩
      case measure=>simp[intOf];omega
    ·have di2:=Wv (show nO<=i2 by omega)
     obtain⟨wb,hwb⟩:=Wr wr;subst hwb;have hkl6:kl.length<=n:=by omega
     have HCpA:Hid (Ds s O kl):=by
      have h:=HCp.out;rw[AT (by rw[HNO.out];omega)]at h;exact h
     clear HCp;have xS:Wx w wb:=xT.grown HGr.out xT.size (fun k hk=>by injection hk with hk;subst hk;rw[HM.out];exact hbw.size);obtain⟨pb,hpb⟩:=Wr wb.heap.size;obtain⟨w5,hw5⟩:=Wr (wb.alloc (.cells #[.slice none 0 0] 103));have hBp:Blk w5 pb 103 #[.slice none 0 0]:=by rw[hw5,hpb];exact Blk.new wb _ _
     have hAq:Bj Oc.val w5 m kl:=by rw[hw5];exact yq.out.alloc _
     have yR:Wx wb w5:=by rw[hw5];exact(AC _ _).alloc (AB _) _
     have hmw:m<wb.heap.size:=yq.out.is.lt;have HW5:=AA hw5;have HPb:=AA hpb;have hpw:wb.heap.size<=pb:=by omega
     clear hw5 hpb HR3 hDS;go_upto_region 16 with fail
     simp only[<-HW5.out,<-HPb.out];obtain⟨r,hr⟩:=Wr w5.heap.size;go_wp2_with (at_range;refine DY _ rfl _ 178 rfl _ _ underlying178 m kl rfl hAq (Hd M []) ?_;intro o6 ON zd)
     have hAr:Blk (w5.alloc o6) pb 103 #[.slice none 0 0]:=hBp.alloc _;have xh:Wx wb (w5.alloc o6):=yR.alloc yR.size _;rw[<-hr]at zd ⊢;have hrw:wb.heap.size<=r:=by rw[hr];exact yR.size
     have hrp:r≠pb:=by have:=hBp.lt;omega
     have hmr:m≠r:=by omega
     have hCe:m≠pb:=by omega
     generalize w5.alloc o6=w6 at*;have ze:=AA zd;have hAs:=AA hAr;clear zd hAr hr hBp hAq yR HW5;go_frame
     go_loopw [17] (fun _ wx=>Vy M s O m r pb kl wb wx) (fun _ wx=>JN m r wx)
     case atStart=>exact⟨ON,_,[],ze.out,hAs.out,by have:=ze.out.rng.le;simpa using this,fun o ho=>(List.not_mem_nil ho).elim,⟨by simp,.inl ⟨rfl,rfl⟩⟩,xh⟩
     case round=>
      obtain⟨cnt,v,L,hrg,hBp,hLc,hL,xB,hbx⟩:=hrel;have HRg:=AA hrg;have HBp:=AA hBp;have HL3:=AA hL;have xF:=AA xB;have y1:wr.cell? ⟨pb,0,none⟩=some v:=hBp.cell 0;have hL6:L.length<=1000000:=by omega
      have hrx:r<wr.heap.size:=hrg.rng.lt;have hpx:pb<wr.heap.size:=hBp.lt;have hmx:m<wr.heap.size:=hrg.rng.mlt;clear hrg hBp hL xB ze hAs;go_wp2_with (at_next;refine Dm _ rfl _ rfl m r cnt kl _ rfl HRg.out ?_ ?_)
      ·intro hAt;have hCM:=AA hAt;clear hAt;have yQ:=AA (zC.out wb wr pb v L xF.out hbx HBp.out hL6);clear zC;go_wp2_with fail
       refine yQ.out.mono ?_;rintro en w8 ⟨rfl,hB8,hb8,l8,hp8,xV⟩;have z1:w8.cell? ⟨pb,0,none⟩=some v:=hB8.cell 0;have HP8:=AA hp8;have zM:=AA xV;have hll:L.length<=l.length:=by rw[HN.out];omega
       clear hB8 hp8 xV yQ y1;go_wp2;go_ret;have hbb:Wx w0 wb:=hb0.trans (xS.mono hb0.size);exact⟨v,l8,rfl,⟨O,HO.out,(fun o ho=>HL3.out o (HP8.out.mem_iff.1 ho)),fun sm=>⟨HOe.out sm,(fun x hx h4 h2=>(Ds.fin HCpA.out (fun pp hpp=>hCM.out pp.1 pp.2 hpp) x hx h4 h2).imp (fun h=>HP8.out.mem_iff.2 h) id)⟩⟩,by rw[HP8.out.length_eq];exact hll,BS zM.out hbb.size,hbb.trans (hb8.mono hbb.size)⟩
      ·intro k v1 w1 FW yM zQ zR hg1 hs1 hen;obtain⟨j1,j2,S,hv1,j3⟩:=HMk.out (k,v1) yM;clear j1 j2 j3;simp only at hv1;subst hv1;have zo:=AA yM;have hb1:Wx wb w1:=hbx.grown hg1 hbx.size (Wt hrw);have zp:Hid (Blk w1 pb 103 #[v]):=HBp.out.kept hg1 (by intro e;injection e with e;exact hrp e.symm);have hnr:v.ownBlock≠some r:=fun e=>(HRg.out.rng.ne_row xF.out).2 e.symm
       have HOwn1E:Hid (w1.ownsRow wb.heap.size 142 11 v L.length (L.flatMap occ)):=Ba xF.out hg1 (Wt (.inr hnr));have hCf:=AA zQ;have hr1:r<w1.heap.size:=zQ.rng.lt;have hm1:m<w1.heap.size:=zQ.rng.mlt;have hp1:pb<w1.heap.size:=zp.out.lt;clear yM zQ hg1 y1 hnr;clear hs1;go_upto_region 19 with fail
       obtain⟨w4,hw4⟩:=Wr (w1.alloc (.cells k.cells 142));rw[<-hw4];have yx:Hid (C5 Oc.val w4 m r kl FW (fun p=>Hd M L p∨p=(k,.int .i64 (S:Int)))):=by unfold Hid;rw[hw4];exact hCf.out.alloc _
       have yU:Hid (Blk w4 pb 103 #[v]):=by unfold Hid;rw[hw4];exact zp.out.alloc _
       have xJ:Hid (w4.ownsRow wb.heap.size 142 11 v L.length (L.flatMap occ)):=by unfold Hid;rw[hw4];exact HOwn1E.out.alloc _
       have hb4:Wx wb w4:=by rw[hw4];exact hb1.alloc hb1.size _
       have hB4:Blk w4 w1.heap.size 142 k.cells:=by rw[hw4];exact Blk.new w1 _ _
       clear hw4;obtain⟨z,hz⟩:=Wr w1.heap.size;rw[<-hz]at hB4 ⊢;have x3:AK w4 z 0 11=some k.cells:=hB4.row 11 rfl;have y4:w4.cell? ⟨pb,0,none⟩=some v:=yU.out.cell 0;clear hB4 hz hen zp HOwn1E hb1;obtain⟨a,ha⟩:=Wr (Ae (xOf (S:Int)) 10);have hCg:Hid (∀W,Calls prog 15 #[.int .i64 (S:Int)] W fun e w'=>e= .returned (.int .i64 (a:Int))/\w'=W):=fun W=>by rw[ha];exact HSz.out _ W
       have HA:=AA ha;obtain⟨qn,hqn⟩:=Wr (Bd nq);have HQn:=AA hqn;have hGN:Hid (∀W,Calls prog 115 #[.int .i64 (nq:Int)] W fun e w'=>e= .returned (.int .i64 (qn:Int))/\w'=W):=fun W=>by rw[hqn];exact HQu.out W
       clear ha hqn;try go_frame
       by_cases hq:qn<=a
       ·have dq:decide ((qn:Int)<=(a:Int))=true:=by simp;omega
        go_wp2_with fail
        refine(hCg.out _).mono ?_;rintro en w5' ⟨rfl,xi⟩;replace xi:=xi.symm;subst xi;go_wp2_with fail
        refine(hGL.out _).mono ?_;rintro en w5' ⟨rfl,xi⟩;replace xi:=xi.symm;subst xi;go_wp2_with fail
        refine(hGN.out _).mono ?_;rintro en w5' ⟨rfl,xi⟩;replace xi:=xi.symm;subst xi;have hq':Bd (Ae (xOf M) 10)<=Ae (xOf (S:Int)) 10:=by rw[<-HNq.out,<-HQn.out,<-HA.out];exact hq
        have HOk:=AA (HMk.out.out zo.out hq');clear hq';go_wp2_with ((first
         |(refine BQ rfl 103 142 (.tmp 87) rfl k.cells rfl underlying103 (by kernel_rfl) (by decide) (by decide) ?_)
         |(at_builtin;refine Ar rfl (.tmp 86) (.tmp 88) _ rfl wb.heap.size 142 (.agg Oc.zero.cells) 11 32 underlying103 Pe rfl (by decide) v L.length (L.flatMap occ) rfl ?r0 (w4.heap.size+1) (some ⟨w4.heap.size,0,none⟩) 1 1 (occ k) rfl ?r1 ?r2 ?r3 ?r4 ?r5 ?r6 ?_)))
        case r0=>exact xJ.out.alloc _
        case r1=>rfl
        case r2=>exact Rd.mk (by omega) (fun j u hu=>by rw[Nat.zero_add,(Blk.new w4 _ _).cell];simpa using hu)
        case r3=>exact fun u hu=>L3 k hu
        case r4=>omega
        case r5=>unfold maxLen;omega
        case r6=>have:=hb4.size;simp;omega
        intro v7 w7 xE hg7 xo;have hAu:some pb≠v.ownBlock:=CO xJ.out yU.out (by decide);have hnn:=yx.out.rng.ne_row xJ.out;have yy:Hid (Blk w7 pb 103 #[v]):=(yU.out.alloc _).kept hg7 hAu;have hCh:Hid (C5 Oc.val w7 m r kl FW (fun p=>Hd M L p∨p=(k,.int .i64 (S:Int)))):=(yx.out.alloc _).kept hg7 hnn.1 hnn.2;have hb7:Wx wb w7:=BO (hb4.alloc hb4.size _) (xJ.out.alloc _) hg7;have hAv:some pb≠v7.ownBlock:=CO xE yy.out (by decide);obtain⟨g7,cap7,rfl⟩:=ownsRow_succ xE;have xO:=AA xE;have HNe:=AA hAv;have y6:w7.cell? ⟨pb,0,none⟩=some v:=yy.out.cell 0;have y7:w7.frozen? ⟨pb,0,none⟩=false:=yy.out.frozen 0;clear xE hg7 xo hAu hnn hAv y4 x3;go_wp2;try go_frame
        have hAw:Hid (C5 Oc.val (w7.setCell ⟨pb,0,none⟩ (.slice (some ⟨g7,0,none⟩) (L.length+1) cap7)) m r kl FW (Hd M (L++[k]))):=(hCh.out.kept (Bl (p:=⟨pb,0,none⟩) (Al w7 pb) rfl _) (by intro e;injection e with e;exact hCe e) (by intro e;injection e with e;exact hrp e)).mono (fun p hp=>Hd.snoc hp);go_roundw
        case rel=>
         refine⟨FW,_,L++[k],hAw.out,yy.out.put 0 _,by rw[AI];simp;omega,?_,?_,hb7.setCell hpw _⟩
         ·intro t ht;rcases AP.1 ht with ht|ht
          ·exact HL3.out t ht
          ·rw[AM.1 ht];exact HOk.out
         ·have h:=Ba xO.out (Bl (p:=⟨pb,0,none⟩) (Al w7 pb) rfl (.slice (some ⟨g7,0,none⟩) (L.length+1) cap7)) (Wt (.inr (fun e=>HNe.out e.symm)));rw[AI,Af];simpa using h
        case measure=>rw[hAw.out.rng.left_eq,HRg.out.rng.left_eq];exact zR
       ·have dq:decide ((qn:Int)<=(a:Int))=false:=by simp;omega
        go_wp2_with fail
        refine(hCg.out _).mono ?_;rintro en w5' ⟨rfl,xi⟩;replace xi:=xi.symm;subst xi;go_wp2_with fail
        refine(hGL.out _).mono ?_;rintro en w5' ⟨rfl,xi⟩;replace xi:=xi.symm;subst xi;go_wp2_with fail
        refine(hGN.out _).mono ?_;rintro en w5' ⟨rfl,xi⟩;replace xi:=xi.symm;subst xi;go_wp2;go_roundw
        case rel=>exact⟨FW,v,L,yx.out.mono (fun p hp=>Hd.fail (by rw[<-HNq.out,<-HQn.out,<-HA.out];omega) hp),yU.out,by omega,HL3.out,xJ.out,hb4⟩
        case measure=>rw[yx.out.rng.left_eq,HRg.out.rng.left_eq];exact zR
end
section
open Go.RowKit Go.Shelf
attribute [local go_sem ↓] Go.wp_at_zero Go.wp_at_succ Aq Au Av Aw
attribute [local go_sem] BE BL BM BN AR AX AU
def slB(s:Nat)(l:List Vt):List Vt:=l.filter fun x=>decide (x.slot=(s:Int))
theorem Og{s:Nat}{l:List Vt}{x:Vt}(h:x∈slB s l):x∈l/\x.slot=(s:Int):=by
 have:=List.mem_filter.1 h;exact⟨this.1,by simpa using this.2⟩
theorem MQ{s:Nat}{l:List Vt}{i:Nat}{x:Vt}(hx:l[i]? =some x):slB s (l.take (i+1))=slB s (l.take i)++if decide (x.slot=(s:Int))=true then[x]else[]:=by
 unfold slB;rw[Ah,hx,BF,List.filter_append];simp only[List.filter_cons,List.filter_nil]
theorem TI{s:Nat}{l:List Vt}{i:Nat}{x:Vt}(hx:l[i]? =some x)(h1:x.slot=(s:Int)):slB s (l.take (i+1))=slB s (l.take i)++[x]:=by
 rw[MQ hx,if_pos (by simpa using h1)]
theorem RW{s:Nat}{l:List Vt}{i:Nat}{x:Vt}(hx:l[i]? =some x)(h1:¬x.slot=(s:Int)):slB s (l.take (i+1))=slB s (l.take i):=by
 rw[MQ hx,if_neg (by simpa using h1),List.append_nil]
def Vz(l:List Vt)(s:Nat)(w:World)(v iv:Value)(wr:World):Prop:=
 ∃(i:Nat) (D:List Vt),iv= .int .i64 (i:Int)/\i<=l.length/\D.length<=i/\D=slB s (l.take i)/\wr.ownsRow w.heap.size 46 22 v D.length (D.flatMap vtc)/\Wx w wr
theorem Py(M:Int)(p:Nm)(A:Option Addr)(n c:Nat)(l:List Vt)(s:Nat)(w0:World)(hn:l.length=n)(hr:Rd w0 w0.heap.size A (l.flatMap vtc))(hsm:n<=1000000)(hl:∀v∈l,AW v)(hs:(xOf M).testBit s=true):Calls prog 277 #[.int .i64 M,p.val,.slice A n c,.int .i64 (s:Int)] w0 fun e w'=>∃(v:Value) (O:List Vt),e= .returned v/\D0 M p (s:Int) (slB s l) O/\O.length<=n/\w'.ownsRow w0.heap.size 46 22 v O.length (O.flatMap vtc)/\Wx w0 w':=by
 obtain⟨w,hw⟩:=Wr (w0.alloc (.cells p.cells 24));have hb0:Wx w0 w:=by rw[hw];exact(AC _ _).alloc (AB _) _
 have hBq:Blk w w0.heap.size 24 p.cells:=by rw[hw];exact Blk.new w0 _ _
 obtain⟨q,hq⟩:=Wr w0.heap.size;have HN:=AA hn;have HR:=AA ((hr.below hb0).more hb0.size);have HL:=AA hl;have HS:=AA hs;have HW:=AA hw;rw[<-hq]at hBq;have HBq:=AA hBq;have hqw:q<w.heap.size:=hBq.lt;have HQ:=AA hq;clear hn hr hl hs hw hBq hq;go_enter func277,ntmps277;go_upto_region 1 with fail
 simp only[<-HW.out,<-HQ.out];go_wp2
 go_loopw [9,14] (fun v iv wr=>Vz l s w v iv wr) (fun _ iv _=>n-(intOf iv).toNat)
 case atStart=>exact⟨0,[],rfl,Nat.zero_le _,Nat.zero_le _,by simp[slB],⟨by simp,.inl ⟨rfl,rfl⟩⟩,AC _ _⟩
 case round=>
  obtain⟨i,D,rfl,hin,hDi,hD,xB,hbw⟩:=hrel;rw[HN.out]at hin;have HDe:=AA hD;have xF:=AA xB;have hD6:D.length<=1000000:=by omega
  clear hD xB;by_cases hi:i<n
  ·have di:=Wu (show i<n by omega)
   obtain⟨x,hx⟩:∃x,l[i]? =some x:=⟨_,AE (by rw[HN.out];exact hi)⟩;obtain⟨b,o,rfl,hb,xH⟩:=HR.out.cells (by intro e;have:=AY vtc 22 l (CI l);rw[e,HN.out]at this;simp at this;omega);clear xH;have x1:AK wr b (o+i*22) 22=some x.cells:=(HR.out.below hbw).voteRow hx;have HXx:=AA hx;clear hx;go_upto_region 5 with(refine AJ rfl 46 (.tmp 11) (.tmp 17) rfl wr.heap.size x.cells rfl rfl 46 Bk.cells (Blk.new wr _ _) (by rfl) (by kernel_rfl) (fun u hu=>BH x hu) ?_;intro w4 hB4 hg4 xb)
   have xJ:Hid (w4.ownsRow w.heap.size 46 22 u9 D.length (D.flatMap vtc)):=Ba (xF.out.alloc _) hg4 (fun k hk=>by
    injection hk with hk
    subst hk;right;intro e;have:=(xF.out.lt _ e).2;omega)
   have xI:Wx w w4:=(hbw.alloc hbw.size _).grown hg4 (AG hbw.size (by simp)) (Wt hbw.size);obtain⟨z,hz⟩:=Wr wr.heap.size;rw[<-hz]at hB4 ⊢;have x3:AK w4 z 0 22=some x.cells:=hB4.row 22 rfl;have x4:w4.cell? ⟨z,1,none⟩=some (.int .i64 x.slot):=hB4.cell 1;clear hB4 hg4 xb x1 hz xF hbw;try go_frame
   by_cases h1:x.slot=(s:Int)
   ·have e1:(x.slot==(s:Int))=true:=by rw[h1];exact beq_self_eq_true _
    have HSl:=AA h1;clear h1;go_wp2_with ((first
     |(refine BQ rfl 56 46 (.tmp 23) rfl x.cells rfl underlying56 (by kernel_rfl) (by decide) (by decide) ?_)
     |(at_builtin;refine Ar rfl (.tmp 22) (.tmp 24) _ rfl w.heap.size 46 (.agg Bk.cells) 22 64 underlying56 CE rfl (by decide) u9 D.length (D.flatMap vtc) rfl ?r0 (w4.heap.size+1) (some ⟨w4.heap.size,0,none⟩) 1 1 (vtc x) rfl ?r1 ?r2 ?r3 ?r4 ?r5 ?r6 ?_)))
    case r0=>exact xJ.out.alloc _
    case r1=>rfl
    case r2=>exact Rd.mk (by omega) (fun j u hu=>by rw[Nat.zero_add,(Blk.new w4 _ _).cell];simpa using hu)
    case r3=>exact fun u hu=>BH x hu
    case r4=>omega
    case r5=>unfold maxLen;omega
    case r6=>have:=xI.size;simp;omega
    intro v7 w7 xE hg7 xo;have yL:Wx w w7:=BO (xI.alloc xI.size _) (xJ.out.alloc _) hg7;have xO:=AA xE;clear xE hg7 xo x3 x4 xJ;go_wp2;go_roundw
    case rel=>
     refine⟨i+1,D++[x],by go_num,by rw[HN.out];omega,by rw[AI];simp;omega,?_,?_,yL⟩
     ·rw[TI HXx.out HSl.out,<-HDe.out]
     ·have h:=xO.out;rw[AI,Af];simpa using h
    case measure=>simp[intOf];omega
   ·have e1:(x.slot==(s:Int))=false:=by simpa using h1
    have HSl:=AA h1;clear h1;go_wp2;go_roundw
    case rel=>exact⟨i+1,D,by go_num,by rw[HN.out];omega,by omega,(by rw[RW HXx.out HSl.out];exact HDe.out),xJ.out,xI⟩
    case measure=>simp[intOf];omega
  ·have di:=Wv (show n<=i by omega)
   have hDn:D.length<=n:=by omega
   have yk:D=slB s l:=by
    have h:=HDe.out;rw[AT (by rw[HN.out];omega)]at h;exact h
   obtain⟨A1,c1,hu9,hR1⟩:∃A1 c1,u9= .slice A1 D.length c1/\Rd wr wr.heap.size A1 (D.flatMap vtc):=by
    rcases xF.out.2 with⟨rfl,h0⟩|⟨g,cap,cur,rfl,_⟩
    ·exact⟨none,0,by rw[h0],.inl (AQ (by rw[xF.out.1,h0,Nat.zero_mul]))⟩
    ·exact⟨_,cap,rfl,Rd.of_own xF.out⟩
   subst hu9;have hm:∀v∈D,v∈l/\v.slot=(s:Int):=fun v hv=>by rw[yk]at hv;exact Og hv
   have za:=AA (Jb M p A1 D.length c1 D (s:Int) wr rfl hR1 hD6 (fun v hv=>⟨HL.out v (hm v hv).1,(hm v hv).2⟩) (by simpa using HS.out));have yV:=AA yk;have y1:AK wr q 0 8=some p.cells:=(HBq.out.below hbw hqw).row 8 rfl;obtain⟨nD,hnD⟩:=Wr D.length;rw[<-hnD]at za hDn ⊢;clear yk hm hR1 xF hD6 hDi hnD;go_wp2_with fail
   refine za.out.mono ?_;rintro en w3 ⟨v3,O,rfl,hO,hOn,xC,hb3⟩;have HO:Hid (D0 M p (s:Int) (slB s l) O):=by unfold Hid;rw[<-yV.out];exact hO
   have yH:=AA xC;have hOn':O.length<=n:=by omega
   clear hO xC y1 za;go_wp2;go_ret;have hbb:Wx w0 wr:=hb0.trans (hbw.mono hb0.size);exact⟨v3,O,rfl,HO.out,hOn',BS yH.out hbb.size,hbb.trans (hb3.mono hbb.size)⟩
end
end Go.Proofs.YtadllffeoibelaaGreat
