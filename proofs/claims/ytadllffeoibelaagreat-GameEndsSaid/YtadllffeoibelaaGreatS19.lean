/-
  Parts of the proof. No condition.
-/
import Derived.Test.YtadllffeoibelaaGreatS18
open Go.Proofs.Tryz
namespace Go.Proofs.YtadllffeoibelaaGreat
set_option maxRecDepth 100000
set_option maxHeartbeats 32000000
set_option linter.all false
section
open Go.RowKit Go.Shelf
attribute [local go_sem ↓] Go.wp_at_zero Go.wp_at_succ Aq Au Av Aw
attribute [local go_sem] BE BL BM BN AR AX AU
def JE(M:Int)(p:Nm)(s:Nat)(kd:Int)(n:Nat)(l:List Vt)(w:World)(e:Ending)(w':World):Prop:=
 ∃(v:Value) (O:List Vt) (L:List Nm),e= .returned v/\D0 M p (s:Int) (slB s l) O/\La kd n O L/\L.length<=l.length/\w'.ownsRow w.heap.size 24 8 v L.length (L.flatMap nmc)/\Wx w w'
theorem Hh{a i:Nat}:∀n,i<n->a.testBit i=true->0<Ae a n
 |0,h,_=>by omega
 |n+1,h,hb=>by
  rw[C1];by_cases e:i=n
  ·subst e;rw[hb];simp
  ·have:=Hh n (by omega) hb;omega
theorem Oq{M:Int}{s:Nat}(hs:(xOf M).testBit s=true):0<Ae (xOf M) 10:=by
 refine Hh 10 ?_ hs;rcases Nat.lt_or_ge s 10 with h|h
 ·exact h
 ·rw[Nat.testBit_lt_two_pow (Nat.lt_of_lt_of_le (OS M) (show 2^10<=2^s from Nat.pow_le_pow_right (by decide) h))]at hs;cases hs
theorem P6(M:Int)(p:Nm)(A:Option Addr)(n c:Nat)(l:List Vt)(s:Nat)(w0:World)(hn:l.length=n)(hr:Rd w0 w0.heap.size A (l.flatMap vtc))(hsm:n<=1000000)(hl:∀v∈l,AW v)(hs:(xOf M).testBit s=true):Calls prog 205 #[.int .i64 M,p.val,.slice A n c,.int .i64 (s:Int)] w0 (JE M p s 1 1 l w0):=by
 obtain⟨w,hw⟩:=Wr (w0.alloc (.cells p.cells 24));have hb0:Wx w0 w:=by rw[hw];exact(AC _ _).alloc (AB _) _
 have hBq:Blk w w0.heap.size 24 p.cells:=by rw[hw];exact Blk.new w0 _ _
 obtain⟨q,hq⟩:=Wr w0.heap.size;rw[<-hq]at hBq;have HSg:=AA (Fp M p A n c l s 1 w hn ((hr.below hb0).more hb0.size) hsm hl hs);have HN:=AA hn;have hN6:l.length<=1000000:=by omega
 have HW:=AA hw;have HQ:=AA hq;have y1:AK w q 0 8=some p.cells:=hBq.row 8 rfl;clear hn hr hl hs hw hBq hq;go_enter func205,ntmps205;go_upto_region 1 with fail
 simp only[<-HW.out,<-HQ.out];go_wp2_with (first
  |(go_at_call 250;refine HSg.out.mono ?_;rintro en w3 ⟨m,O,kl,rfl,hO,hOn,hbr,hmp,hm0,hb3⟩;have HO:=AA hO;have hCK:=AA (MR 1 1 O m kl w3 (fun v hv=>(hO.1.2 v hv).2.1.1.2.1) (by omega) (AB _) hbr hmp);clear hbr hmp hO)
  |(go_at_call 249;refine hCK.out.mono ?_;rintro en w4 ⟨v4,L,rfl,hA,hLn,xB,hb4⟩;have HA:=AA hA;have xF:=AA xB;clear hA xB))
 go_ret;have zP:=hb0.trans (hb3.mono hb0.size);exact⟨v4,O,L,rfl,HO.out,HA.out,by omega,BS xF.out zP.size,zP.trans (hb4.mono zP.size)⟩
theorem P7(M:Int)(p:Nm)(A:Option Addr)(n c:Nat)(l:List Vt)(s:Nat)(w0:World)(hn:l.length=n)(hr:Rd w0 w0.heap.size A (l.flatMap vtc))(hsm:n<=1000000)(hl:∀v∈l,AW v)(hs:(xOf M).testBit s=true):Calls prog 207 #[.int .i64 M,p.val,.slice A n c,.int .i64 (s:Int)] w0 (JE M p s 2 (Bd (Ae (xOf M) 10)) l w0):=by
 obtain⟨w,hw⟩:=Wr (w0.alloc (.cells p.cells 24));have hb0:Wx w0 w:=by rw[hw];exact(AC _ _).alloc (AB _) _
 have hBq:Blk w w0.heap.size 24 p.cells:=by rw[hw];exact Blk.new w0 _ _
 obtain⟨q,hq⟩:=Wr w0.heap.size;rw[<-hq]at hBq;have HSg:=AA (Fp M p A n c l s 2 w hn ((hr.below hb0).more hb0.size) hsm hl hs);have HN:=AA hn;have hN6:l.length<=1000000:=by omega
 have HW:=AA hw;have HQ:=AA hq;have y1:AK w q 0 8=some p.cells:=hBq.row 8 rfl;have hq1:1<=Bd (Ae (xOf M) 10):=IP (Oq hs);have HSz:Hid (∀W,Calls prog 15 #[.int .i64 M] W fun e w'=>e= .returned (.int .i64 ((Ae (xOf M) 10:Nat):Int))/\w'=W):=fun W=>Cd M W
 have HQu:Hid (∀W,Calls prog 115 #[.int .i64 ((Ae (xOf M) 10:Nat):Int)] W fun e w'=>e= .returned (.int .i64 ((Bd (Ae (xOf M) 10):Nat):Int))/\w'=W):=fun W=>FZ _ (Eh _ _) W
 obtain⟨a,ha⟩:=Wr (Ae (xOf M) 10);rw[<-ha]at hq1 HSz HQu ⊢;obtain⟨b,hb⟩:=Wr (Bd a);rw[<-hb]at hq1 HQu ⊢;have HQ1:=AA hq1;clear hn hr hl hs hw hBq hq ha hb hq1;go_enter func207,ntmps207;go_upto_region 1 with fail
 simp only[<-HW.out,<-HQ.out];go_wp2_with (first
  |(go_at_call 250;refine HSg.out.mono ?_;rintro en w3 ⟨m,O,kl,rfl,hO,hOn,hbr,hmp,hm0,hb3⟩;have HO:=AA hO;have hCK:=AA (MR 2 b O m kl w3 (fun v hv=>(hO.1.2 v hv).2.1.1.2.1) (by omega) (HQ1.out) hbr hmp);clear hbr hmp hO)
  |(go_at_call 15;refine(HSz.out _).mono ?_;rintro en w5 ⟨rfl,hw5⟩;replace hw5:=hw5.symm;subst hw5)
  |(go_at_call 115;refine(HQu.out _).mono ?_;rintro en w6 ⟨rfl,hw6⟩;replace hw6:=hw6.symm;subst hw6)
  |(go_at_call 249;refine hCK.out.mono ?_;rintro en w4 ⟨v4,L,rfl,hA,hLn,xB,hb4⟩;have HA:=AA hA;have xF:=AA xB;clear hA xB))
 go_ret;have zP:=hb0.trans (hb3.mono hb0.size);exact⟨v4,O,L,rfl,HO.out,HA.out,by omega,BS xF.out zP.size,zP.trans (hb4.mono zP.size)⟩
def Iu(M:Int)(p:Nm)(s:Nat)(l:List Vt)(k:Nm)(w:World)(e:Ending)(w':World):Prop:=
 ∃(O:List Vt),e= .returned (.int .i64 ((BX (pK 2 k) O:Nat):Int))/\D0 M p (s:Int) (slB s l) O/\Wx w w'
theorem MV(M:Int)(p:Nm)(A:Option Addr)(n c:Nat)(l:List Vt)(s:Nat)(k:Nm)(w0:World)(hn:l.length=n)(hr:Rd w0 w0.heap.size A (l.flatMap vtc))(hsm:n<=1000000)(hl:∀v∈l,AW v)(hs:(xOf M).testBit s=true):Calls prog 208 #[.int .i64 M,p.val,.slice A n c,.int .i64 (s:Int),k.val] w0 (Iu M p s l k w0):=by
 obtain⟨w,hw⟩:=Wr (w0.alloc (.cells p.cells 24));have hb0:Wx w0 w:=by rw[hw];exact(AC _ _).alloc (AB _) _
 have hBq:Blk w w0.heap.size 24 p.cells:=by rw[hw];exact Blk.new w0 _ _
 obtain⟨q,hq⟩:=Wr w0.heap.size;rw[<-hq]at hBq;have hqw:q<w.heap.size:=hBq.lt;obtain⟨w2,hw2⟩:=Wr (w.alloc (.cells k.cells 24));have hb2:Wx w0 w2:=by rw[hw2];exact hb0.alloc hb0.size _
 obtain⟨z,hz⟩:=Wr (w0.heap.size+1);have hs1:w.heap.size=w0.heap.size+1:=by rw[hw];simp
 have hBz:Blk w2 z 24 k.cells:=by rw[hw2,hz,<-hs1];exact Blk.new w _ _
 have hEZ:Blk w2 q 24 p.cells:=by rw[hw2];exact hBq.alloc _
 have xe:Hid (∀V,Wx w2 V->AK V q 0 8=some p.cells/\AK V z 0 8=some k.cells):=fun V hV=>⟨(hEZ.below hV hEZ.lt).row 8 rfl,(hBz.below hV hBz.lt).row 8 rfl⟩
 have HSg:Hid (∀V,Wx w2 V->Calls prog 250 #[.int .i64 M,p.val,.slice A n c,.int .i64 (s:Int),.int .i64 2] V (Oj M p s 2 l V)):=fun V hV=>Fp M p A n c l s 2 V hn ((hr.below (hb2.trans (hV.mono hb2.size))).more (AG hb2.size hV.size)) hsm hl hs
 have HW:=AA hw;have HW2:=AA hw2;have HQ:=AA hq;have HZ:=AA hz;have hbx:Wx w2 w2:=AC _ _;clear hn hr hl hs hw hBq hq hw2 hz hBz hEZ hs1 hqw;go_enter func208,ntmps208;go_upto_region 1 with fail
 simp only[<-HW.out,<-HW2.out,<-HZ.out];simp only[<-HQ.out];refine rgD (fun V=>AK V q 0 8=some p.cells/\AK V z 0 8=some k.cells) (xe.out _ hbx.drew) fun _=>?_
 iterate 4 (refine tkA ?_;go_frame)
 refine tkD 16 5 ?_;go_frame;refine rd1 4 fun K hK=>?_
 go_simp;refine(HSg.out _ hbx.drew).mono ?_;rintro en w3 ⟨m,O,kl,rfl,hO,hOn,hbr,hmp,hm0,hb3⟩;have xD:=hbx.drew.trans (hb3.mono (AB _));have HO:=AA hO;obtain⟨S,hS⟩:=Wr (BX (pK 2 k) O);have HLk:Hid ((BR k kl).getD (.int .i64 0)= .int .i64 (S:Int)):=by(unfold Hid;rw[hS];exact hbr.1 k)
 have HS:=AA hS;have HMp:=AA hmp;clear hO hbr hmp hb3 hS;go_wp2_with fail
 refine hK.out _ _ (xe.out _ xD) (fun _=>?_);clear hK K;try go_frame
 refine rd1 6 fun K hK=>?_
 rw[if_pos (by rfl)];refine B9 (.int .i64 (S:Int)) ((IY (.tmp 15) (.tmp 16) rfl m k rfl rfl HMp.out).trans (by rw[HLk.out])) ?_;refine hK.out _ _ (xe.out _ xD) (fun _=>?_);clear hK K;try go_frame
 refine tkD 10 7 ?_;go_frame;refine dnD ?_;go_wp2;go_ret;exact⟨O,by rw[<-HS.out];simp,HO.out,hb2.trans (xD.mono hb2.size)⟩
end
section
open Go.RowKit Go.Shelf
attribute [local go_sem ↓] Go.wp_at_zero Go.wp_at_succ Aq Au Av Aw Dl
attribute [local go_sem] BE BL BM BN FE AR AX AU
theorem Bg{w:World}{base e size n:Nat}{v:Value}{xs:List Value}(h:w.ownsRow base e size v n xs):∃A c,v= .slice A n c/\Rd w w.heap.size A xs:=by
 rcases h.2 with⟨rfl,h0⟩|⟨g,cap,cur,rfl,_⟩
 ·exact⟨none,0,by rw[h0],.inl (AQ (by rw[h.1,h0,Nat.zero_mul]))⟩
 ·exact⟨_,cap,rfl,Rd.of_own h⟩
def Fj:Option Vt->Array Value
 |none=>Ai
 |some v=>v.cells
def DA(R:Option Vt->Prop)(w:World)(e:Ending)(w':World):Prop:=∃o:Option Vt,e= .returned (.tuple #[.agg (Fj o),.bool o.isSome])/\R o/\Wx w w'
theorem Rb{w:World}{b:Nat}{M q f:Int}{s:Nat}{p:Nm}{A:Option Addr}{c mo:Nat}{O:List Vt}{ow:Int->Int->Bool}(h:FL w b M q (s:Int) f p A c mo O ow)(A':Option Addr)(n' c':Nat)(l:List Vt)(hn:l.length=n')(hr:Rd w w.heap.size A' (l.flatMap vtc))(hsm:n'<=1000000)(hl:∀v∈l,AW v)(hs:(xOf M).testBit s=true)(AH:Option Addr)(nH cH:Nat)(H:List Nm)(hnH:H.length=nH)(hrH:Rd w w.heap.size AH (H.flatMap nmc))(hDX:nH<=1000000):Calls prog 160 #[.pointer (some ⟨b,0,none⟩),.slice A' n' c',.slice AH nH cH] w (DA (Ff M p s f l H ow) w):=by
 obtain⟨w1,hw1⟩:=Wr (w.alloc (.cells Ai 46));have hb1:Wx w w1:=by rw[hw1];exact(AC _ _).alloc (AB _) _
 obtain⟨g,hg⟩:=Wr w.heap.size;have hG1:Blk w1 g 46 Ai:=by rw[hw1,hg];exact Blk.new w _ _
 have hgw:w.heap.size<=g:=by omega
 have hV1:=h.below hb1;have HV:Hid (∀V,Wx w1 V->FL V b M q (s:Int) f p A c mo O ow):=fun V hV=>hV1.below hV
 have HG:Hid (∀V,Wx w1 V->Blk V g 46 Ai):=fun V hV=>hG1.below hV hG1.lt
 have HS:Hid (∀V,Wx w1 V->V.cell? ⟨b,0,none⟩=some (.int .i64 M)/\AK V b 4 8=some p.cells/\V.cell? ⟨b,2,none⟩=some (.int .i64 (s:Int))):=fun V hV=>⟨(hV1.below hV).blk.cell 0,(hV1.below hV).row_parent,(hV1.below hV).blk.cell 2⟩
 have hBP:=AA (Do hV1 2 0);have HPr:Hid (∀V,Wx w1 V->Calls prog 205 #[.int .i64 M,p.val,.slice A' n' c',.int .i64 (s:Int)] V (JE M p s 1 1 l V)):=fun V hV=>P6 M p A' n' c' l s V hn ((hr.below (hb1.trans (hV.mono hb1.size))).more (AG hb1.size hV.size)) hsm hl hs
 have HRH:Hid (∀V,Wx w1 V->Rd V w.heap.size AH (H.flatMap nmc)):=fun V hV=>hrH.below (hb1.trans (hV.mono hb1.size))
 have hN6:l.length<=1000000:=by omega
 have HNH:=AA hnH;have HB1:=AA hb1;have HW1:=AA hw1;have HGg:=AA hg;obtain⟨d,hd⟩:=Wr (ow 2 0);rw[<-hd]at hBP;have hbx:Wx w1 w1:=AC _ _;clear h hn hr hsm hl hs hnH hrH hw1 hb1 hg hG1 hV1;go_enter func160,ntmps160;go_upto_region 1 with fail
 simp only[<-HW1.out,<-HGg.out];cases d with
 |true=>
  have HD:=AA hd.symm;clear hd;go_wp2_with (first
   |(go_at_call 204;refine hBP.out.mono ?_;rintro en w2 ⟨rfl,hw2⟩;replace hw2:=hw2.symm;subst hw2)
   |(refine AJ rfl 46 (.tmp 6) (.tmp 14) rfl g Ai rfl rfl 46 Ai (HG.out _ hbx) rfl Ao (fun u hu=>CL hu) ?_;intro w9 hR9 hg9 xg))
  refine bodyPost_ret (Ac (g:=g) (cs:=Ai) rfl _ _ _ _ _ rfl hR9 underlying46 rfl Ao) rfl ⟨none,rfl,.inl HD.out,?_⟩;exact HB1.out.grown hg9 HB1.out.size (Wt hgw)
 |false=>
  have HD:=AA hd.symm;clear hd;go_upto_region 3 with(go_at_call 204;refine hBP.out.mono ?_;rintro en w2 ⟨rfl,hw2⟩;replace hw2:=hw2.symm;subst hw2)
  refine rgD (fun V=>V.cell? ⟨b,0,none⟩=some (.int .i64 M)/\AK V b 4 8=some p.cells/\V.cell? ⟨b,2,none⟩=some (.int .i64 (s:Int))) (HS.out _ hbx.drew) fun _=>?_
  iterate 13 (refine tkA ?_;go_frame)
  refine tkD 30 15 ?_;go_frame;refine rd1 13 fun K hK=>?_
  go_simp;refine(HPr.out _ hbx.drew).mono ?_;rintro en w3 ⟨v3,O3,L,rfl,hO3,hA3,hL3,xC,hb3⟩;have xD:=hbx.drew.trans (hb3.mono (AB _));obtain⟨A3,c3,rfl,hR3⟩:∃A1 c1,v3= .slice A1 L.length c1/\Rd w3 w3.heap.size A1 (L.flatMap nmc):=(by
   rcases xC.2 with⟨rfl,h0⟩|⟨g',cap,cur,rfl,_⟩
   ·exact⟨none,0,by rw[h0],.inl (AQ (by rw[xC.1,h0,Nat.zero_mul]))⟩
   ·exact⟨_,cap,rfl,Rd.of_own xC⟩)
  have HR3:=AA hR3;have HO3:=AA hO3;have HA3:=AA hA3;obtain⟨nL,hnL⟩:=Ws L.length;rw[hnL]at hL3 ⊢;have HNL:=AA hnL;clear xC hR3 hO3 hA3 hb3 hnL;go_wp2_with fail
  refine hK.out _ _ (HS.out _ xD) (fun _=>?_);clear hK K;try go_frame
  refine tkD 29 14 ?_;go_frame;refine dnD ?_;have hDY:nL<=1000000:=by omega
  go_wp2
  go_loopw [30] (fun iv wr=>∃i:Nat,iv= .int .i64 (i:Int)/\i<=nL/\Wx w3 wr/\∀k∈L.take i,¬k∈H) (fun iv _=>nL-(intOf iv).toNat)
  case atStart=>exact⟨0,rfl,Nat.zero_le _,AC _ _,fun k hk=>by simp at hk⟩
  case round=>
   obtain⟨i,rfl,hin,hbr,hno⟩:=hrel;have HNo:=AA hno;have yb:=xD.trans (hbr.mono xD.size);clear hno;by_cases hi:i<nL
   ·have di:=Wu (show i<nL by omega)
    obtain⟨x,hx⟩:∃x,L[i]? =some x:=⟨_,AE (by rw[HNL.out];exact hi)⟩;obtain⟨g0,o,rfl,hb,xH⟩:=HR3.out.cells (by intro e;have:=AY nmc 8 L (Cm L);rw[e,HNL.out]at this;simp at this;omega);clear xH;have x1:AK wr g0 (o+i*8) 8=some x.cells:=(HR3.out.below hbr).row hx;have HX:=AA hx;clear hx;go_upto_region 6 with fail
    obtain⟨w4,hw4⟩:=Wr (wr.alloc (.cells x.cells 24));rw[<-hw4];have hB4:Blk w4 wr.heap.size 24 x.cells:=by rw[hw4];exact Blk.new wr _ _
    have hb4:Wx w3 w4:=by rw[hw4];exact hbr.alloc hbr.size _
    obtain⟨z,hz⟩:=Wr wr.heap.size;rw[<-hz]at hB4 ⊢;have HZ4:Hid (∀V,Wx w4 V->AK V z 0 8=some x.cells):=fun V hV=>(hB4.below hV hB4.lt).row 8 rfl
    clear hw4 hz hB4 x1;go_wp2
    go_loopw [36] (fun iv wr=>∃j:Nat,iv= .int .i64 (j:Int)/\j<=nH/\Wx w4 wr/\¬x∈H.take j) (fun iv _=>nH-(intOf iv).toNat)
    case atStart=>exact⟨0,rfl,Nat.zero_le _,AC _ _,by simp⟩
    case round=>
     obtain⟨j,rfl,hjn,hby,hnx⟩:=hrel;have HNx:=AA hnx;have hEa:=hb4.trans (hby.mono hb4.size);have hGR:=xD.trans (hEa.mono xD.size);clear hnx;by_cases hj:j<nH
     ·have dj:=Wu (show j<nH by omega)
      obtain⟨k,hk⟩:∃k,H[j]? =some k:=⟨_,AE (by rw[HNH.out];exact hj)⟩;obtain⟨g1,o1,rfl,hb',xH⟩:=(HRH.out _ hbx).cells (by intro e;have:=AY nmc 8 H (Cm H);rw[e,HNH.out]at this;simp at this;omega);clear xH;have x2:AK wr g1 (o1+j*8) 8=some k.cells:=(HRH.out _ hGR).row hk;have HK:=AA hk;clear hk;go_upto_region 9 with fail
      obtain⟨w5,hw5⟩:=Wr (wr.alloc (.cells k.cells 24));rw[<-hw5];have hB5:Blk w5 wr.heap.size 24 k.cells:=by rw[hw5];exact Blk.new wr _ _
      have hb5:Wx w4 w5:=by rw[hw5];exact hby.alloc hby.size _
      obtain⟨z5,hz5⟩:=Wr wr.heap.size;rw[<-hz5]at hB5 ⊢;have x5:AK w5 z5 0 8=some k.cells:=hB5.row 8 rfl;have x4:AK w5 z 0 8=some x.cells:=HZ4.out _ hb5;have hb53:=hb4.trans (hb5.mono hb4.size);have xa:=xD.trans (hb53.mono xD.size);clear hw5 hz5 hB5 x2 hGR hEa;by_cases he:k=x
      ·have e9:∀W,(Op.equalIn 10000 24 (.agg k.cells) (.agg x.cells)).run prog W= .ok true W:=fun W=>by
        have h:=EW k x W 9998;rwa[decide_eq_true he]at h
       obtain⟨v,hv⟩:∃v:Vt,v=Vt.mk 2 (s:Int) 0 1 f 0 p x:=⟨_,rfl⟩;have HVo:Hid (∀V,Wx w1 V->Calls prog 206 #[.pointer (some ⟨b,0,none⟩),.int .i64 2,.int .i64 0,(Vl.mk 1 x).val,.int .i64 0] V (fun e w'=>e= .returned (.tuple #[v.val,.bool true])/\Wx V w')):=fun V hV=>by rw[hv];exact Ga (HV.out V hV) 2 0 (Vl.mk 1 x) 0
       have HVv:=AA hv;have HE:=AA he;clear he hv;go_wp2_with (first
        |(refine Great.wpList_readTo rfl (some 45) rfl (Vl.mk 1 x).val (F5 1 x (.const (.int .i64 1)) (.tmp 44) rfl rfl rfl _) ?_)
        |(go_at_call 206;refine(HVo.out _ xa).mono ?_;rintro en w7 ⟨rfl,hb7⟩;have xc:=xa.trans (hb7.mono xa.size))
        |(refine AJ rfl 46 (.tmp 6) (.tmp 47) rfl g v.cells rfl rfl 46 Ai (HG.out _ xc) rfl Ao (fun u hu=>BH _ hu) ?_;intro w9 hR9 hg9 xg))
       have zS:=HB1.out.trans (xc.mono HB1.out.size);refine bodyPost_ret (Ac (g:=g) (cs:=v.cells) rfl _ _ _ _ _ rfl hR9 underlying46 rfl Ao) rfl ⟨some v,rfl,⟨HD.out,O3,x,HO3.out,((HA3.out x).1 (AN HX.out)).1,((HA3.out x).1 (AN HX.out)).2,by rw[<-HE.out];exact AN HK.out,HVv.out⟩,?_⟩;exact zS.grown hg9 zS.size (Wt hgw)
      ·have e9:∀W,(Op.equalIn 10000 24 (.agg k.cells) (.agg x.cells)).run prog W= .ok false W:=fun W=>by
        have h:=EW k x W 9998;rwa[decide_eq_false he]at h
       have HE:=AA he;clear he;go_wp2;go_roundw
       case rel=>
        refine⟨j+1,by go_num,by omega,hb5,fun hm=>?_⟩;rw[Ah,HK.out,BF]at hm;rcases AP.1 hm with hm|hm
        ·exact HNx.out hm
        ·exact HE.out (AM.1 hm).symm
       case measure=>simp[intOf];omega
     ·have dj:=Wv (show nH<=j by omega)
      go_wp2;go_roundw
      case rel=>
       refine⟨i+1,by go_num,by omega,hEa,fun k hk=>?_⟩;rw[Ah,HX.out,BF]at hk;rcases AP.1 hk with hk|hk
       ·exact HNo.out k hk
       ·rw[AM.1 hk];have hnx:=HNx.out;rwa[AT (by rw[HNH.out];omega)]at hnx
      case measure=>simp[intOf];omega
   ·have di:=Wv (show nL<=i by omega)
    have yF:∀k∈L,¬k∈H:=by
     have h:=HNo.out;rwa[AT (by rw[HNL.out];omega)]at h
    have yT:=AA yF;clear yF;have hb0r:=HB1.out.trans (yb.mono HB1.out.size);go_wp2_with (refine AJ rfl 46 (.tmp 6) (.tmp 51) rfl g Ai rfl rfl 46 Ai (HG.out _ yb) rfl Ao (fun u hu=>CL hu) ?_;intro w9 hR9 hg9 xg)
    refine bodyPost_ret (Ac (g:=g) (cs:=Ai) rfl _ _ _ _ _ rfl hR9 underlying46 rfl Ao) rfl ⟨none,rfl,.inr ⟨O3,L,HO3.out,HA3.out,yT.out⟩,?_⟩;exact Below.grown (hb0r) hg9 (Below.size (hb0r)) (Wt hgw)
end
section
open Go.RowKit Go.Shelf
attribute [local go_sem] Oper.semAt_some
theorem MW(s:Nat):∀(d i:Nat),∃t,CK s (i+d)=CK s i++t
 |0,i=>⟨[],by simp⟩
 |d+1,i=>by
  obtain⟨t,ht⟩:=MW s d i;cases hb:s.testBit (i+d)with
  |true=>exact⟨t++[i+d],by rw[<-Nat.add_assoc,GB hb,ht,List.append_assoc]⟩
  |false=>exact⟨t,by rw[<-Nat.add_assoc,EG hb,ht]⟩
theorem Rc{s i k:Nat}(hi:i<=10)(hk:k<=(CK s i).length):(CK s 10).take k=(CK s i).take k:=by
 obtain⟨t,ht⟩:=MW s (10-i) i;rw[show i+(10-i)=10 by omega]at ht;rw[ht,List.take_append_of_le_length hk]
abbrev EK(pre:List (Fin 10)):List Nat:=pre.map (·.val)
theorem Hi(pre:List (Fin 10)):(EK pre).length=pre.length:=Ab _
theorem TL(pre:List (Fin 10)):∀i∈EK pre,i<=9:=fun i hi=>by
 obtain⟨x,_,rfl⟩:=List.mem_map.1 hi;have:=x.2;omega
theorem Re(n:Nat)(hn:1<=n)(l Bn n₀:Nat)(M:Int)(J Jx:List (Fin 10)->World->Prop)(hY:∀(pre:List (Fin 10)) (x:Fin 10) (W:World),J pre W->pre.length<10->YieldAt Fence.wide (n-1) prog l #[.int .i64 (x.val:Int)] W fun e W'=>(e= .returned (.bool true)/\J (pre++[x]) W'/\Ew n₀ Bn W W')∨(e= .returned (.bool false)/\Jx (pre++[x]) W'))(W:World)(hB:Boxed W Bn 22 (.int .i64 M))(h0:J [] W):CallsIn Fence.wide n prog 128 #[.func (.yield l) #[] #[],.pointer (some ⟨Bn,0,none⟩)] W fun e W'=>(∃v,e= .returned v)/\((∃ys,EK ys=CK (xOf M) 10/\J ys W')∨(∃pre,(∃i,i<=10/\EK pre=CK (xOf M) i)/\Jx pre W')):=by
 have HH:=AA (fun i (hi:i<10) W=>ET M i hi W);refine callsIn_of_wp func128 rfl trivial ?_ rfl;simp only[ntmps128,List.size_toArray,Ag,List.length_nil,Nat.reduceAdd,Nat.reduceSub,Array.replicate_succ,Array.replicate_zero,List.push_toArray,List.append_toArray,List.nil_append,List.cons_append]
 gi_wp2
 gi_loopw [4] (fun iv wr=>∃(i:Nat) (pre:List (Fin 10)),iv= .int .i64 (i:Int)/\i<=10/\EK pre=CK (xOf M) i/\Boxed wr Bn 22 (.int .i64 M)/\J pre wr) (fun iv _=>10-(intOf iv).toNat)
 case atStart=>exact⟨0,[],rfl,by omega,rfl,hB,h0⟩
 case round=>
  obtain⟨i,pre,rfl,hin,hCO,hBQ,hJ⟩:=hrel;have xH:=hBQ.cell;by_cases hi:i<10
  ·have di:decide ((i:Int)<10)=true:=by simp;omega
   have H:=AA (HH.out i hi);cases hb:(xOf M).testBit i with
   |true=>
    rw[hb]at H;have zf:EK (pre++[⟨i,hi⟩])=CK (xOf M) (i+1):=by rw[GB hb,<-hCO];simp[EK]
    have hDZ:=AA zf;clear zf;obtain⟨fn,tmps,assign,body,hy,hR⟩:=hY pre ⟨i,hi⟩ wr hJ (by have:=GC (xOf M) i;rw[<-hCO,Hi]at this;omega)
    gi_wp2_with (refine⟨trivial,?_⟩;gi_at_call 19;refine(callsIn_wide.2 (H.out _)).mono ?_;rintro en w2 ⟨rfl,hw2⟩;replace hw2:=hw2.symm;subst hw2)
    refine hR.mono ?_;rintro e W3 (⟨rfl,hJ3,hk3⟩|⟨rfl,hx3⟩)
    ·have hCi:Boxed W3 Bn 22 (.int .i64 M):=hk3.2.trans hBQ
     gi_wp2
     gi_wp2
     go_roundw
     case rel=>exact⟨i+1,_,by go_num,by omega,hDZ.out,hCi,hJ3⟩
     case measure=>simp[intOf];omega
    ·gi_wp2
     refine bodyPost_ret (results_none rfl _ _ _) rfl ?_;exact⟨⟨_,rfl⟩,.inr ⟨_,⟨i+1,by omega,hDZ.out⟩,hx3⟩⟩
   |false=>
    rw[hb]at H;have hDZ:=AA (hCO.trans (EG hb).symm)
    gi_wp2_with (refine⟨trivial,?_⟩;gi_at_call 19;refine(callsIn_wide.2 (H.out _)).mono ?_;rintro en w2 ⟨rfl,hw2⟩;replace hw2:=hw2.symm;subst hw2)
    refine⟨fun _ h=>(by cases h),?_⟩
    gi_wp2
    go_roundw
    case rel=>exact⟨i+1,pre,by go_num,by omega,hDZ.out,hBQ,hJ⟩
    case measure=>simp[intOf];omega
  ·have di:decide ((i:Int)<10)=false:=by simp;omega
   have hBR:i=10:=by omega
   subst hBR
   gi_wp2
   go_end0;exact⟨⟨_,rfl⟩,.inl ⟨_,hCO,hJ⟩⟩
theorem P8(n:Nat)(hn:1<=n)(Bn n₀:Nat)(M:Int)(w:World)(hBn:Boxed w Bn 22 (.int .i64 M)):SeqStopsK Fence.wide n prog 128 #[.pointer (some ⟨Bn,0,none⟩)] (fun x:Fin 10=>#[Value.int .i64 (x.val:Int)]) (Ew n₀ Bn) (fun ys=>EK ys=CK (xOf M) 10) (fun pre=>∃i,i<=10/\EK pre=CK (xOf M) i) 10 w:=fun l J Jx W hW _ _ hY h0=>
 Re n hn l Bn n₀ M J Jx hY W ((hW.block Bn hBn.lt).trans hBn) h0
theorem Le(M:Int)(k:Nat)(hk:k<=10)(w:World):Calls prog 209 #[.int .i64 M,.int .i64 (k:Int)] w fun e w'=>e= .returned (.int .i64 ((CR (xOf M) k:Nat):Int))/\Wx w w':=by
 have zo:=AA (fun W=>Ph M W);refine(callsIn_wide (n:=3)).1 ?_;refine callsIn_of_wp_marks func209 rfl trivial ?_ rfl;simp only[ntmps209,List.size_toArray,Ag,List.length_nil,Nat.reduceAdd,Nat.reduceSub,Array.replicate_succ,Array.replicate_zero,List.push_toArray,List.append_toArray,List.nil_append,List.cons_append]
 gi_wp2_with (refine⟨trivial,?_⟩;gi_at_call 86;refine(callsIn_wide.2 (zo.out _)).mono ?_;rintro e w' ⟨rfl,rfl⟩)
 have bK:=Boxed.new w 3 (.int .i64 (k:Int));have bO:=Boxed.new (w.alloc (.cells #[.int .i64 (k:Int)] 3)) 22 (.int .i64 0);have bN:=Boxed.new ((w.alloc (.cells #[.int .i64 (k:Int)] 3)).alloc (.cells #[.int .i64 0] 22)) 22 (.int .i64 M);rw[World.size_alloc]at bO;rw[World.size_alloc,World.size_alloc]at bN;have hB0:Wx w (((w.alloc (.cells #[.int .i64 (k:Int)] 3)).alloc (.cells #[.int .i64 0] 22)).alloc (.cells #[.int .i64 M] 22)):=(((AC _ w).alloc (AB _) _).alloc (by simp) _).alloc (by simp;omega) _;obtain⟨W0,hW0⟩:=Wr ((((w.alloc (.cells #[.int .i64 (k:Int)] 3)).alloc (.cells #[.int .i64 0] 22)).alloc (.cells #[.int .i64 M] 22)));have hs0:W0.heap.size=w.heap.size+3:=by rw[hW0];simp
 have bK0:Boxed W0 w.heap.size 3 (.int .i64 (k:Int)):=by rw[hW0];exact(bK.alloc _).alloc _
 have bO0:Boxed W0 (w.heap.size+1) 22 (.int .i64 0):=by rw[hW0];exact bO.alloc _
 rw[<-hW0]at bN hB0 ⊢;clear hW0 bK bO;refine wpIn_rangeFunc_ownG rfl (by omega) (gf:=128) (lb:=#[.pointer (some ⟨w.heap.size+2,0,none⟩)]) rfl trivial (enters_of func128 (by kernel_rfl) rfl)
  (P8 (3-1) (by omega) (w.heap.size+2) w.heap.size M W0 bN) (Kp:=Ew w.heap.size (w.heap.size+2)) M7 (fun W l o o' hl hlo hc hwk=>⟨belowK_b (w:=W0) (by omega) W l o o' hl hlo hc hwk,(grownBy_putObj' W l o').block _ (by have:=(Aa.1 hlo).1;omega) (fun e=>by cases e;omega)⟩) (AC _ _) (by intro x;rfl)
  (fun pre W=>(pre.length<=k/\Boxed W w.heap.size 3 (.int .i64 ((k:Int)-pre.length))/\Boxed W (w.heap.size+1) 22 (.int .i64 ((Fb (EK pre):Nat):Int))/\Boxed W (w.heap.size+2) 22 (.int .i64 M))/\Wx w W)
  (fun c pre W=>(c= .exit 0/\k<pre.length/\Boxed W (w.heap.size+1) 22 (.int .i64 ((Fb ((EK pre).take k):Nat):Int)))/\Wx w W)
  (OwnFrom.and (OwnFrom.and (ownFrom_pure _ _) (OwnFrom.and (Own.from (boxed_own w.heap.size 3 (fun pre:List (Fin 10)=>.int .i64 ((k:Int)-pre.length))) _) (OwnFrom.and (Own.from (boxed_own (w.heap.size+1) 22 (fun pre:List (Fin 10)=>.int .i64 ((Fb (EK pre):Nat):Int))) _) (Own.from (boxed_own (w.heap.size+2) 22 (fun _=>.int .i64 M)) _)))) (ownFrom_below (AB _) (by omega)))
  (fun c=>OwnFrom.and (OwnFrom.and (ownFrom_pure _ _) (OwnFrom.and (ownFrom_pure _ _) (Own.from (boxed_own (w.heap.size+1) 22 (fun pre:List (Fin 10)=>.int .i64 ((Fb ((EK pre).take k):Nat):Int))) _))) (ownFrom_below (AB _) (by omega)))
  ⟨⟨Nat.zero_le _,by simpa using bK0,by simpa[Fb]using bO0,bN⟩,hB0⟩
  (fun x=>{tmps:=#[.int .i64 M,.int .i64 (k:Int),undef,.pointer (some ⟨w.heap.size,0,none⟩),.int .i64 0,.pointer (some ⟨w.heap.size+1,0,none⟩),.int .i64 (x.val:Int),.int .i64 M,.func (.func 128) #[] #[.pointer (some ⟨w.heap.size+2,0,none⟩)],.int .i64 (x.val:Int),undef,undef,undef,undef,undef,undef,undef,undef,undef],defers:=[]}) ?assign ?body ?done ?stop
 case assign=>
  intro l x W K hK
  gi_wp2
  exact hK
 case body=>
  rintro l pre x W ⟨⟨xQ,hK,hO,hm⟩,hB⟩ hlt;have hc:=hK.cell;have hfk:=hK.frozen;obtain⟨S,hS⟩:=Wr (Fb (EK pre));rw[<-hS]at hO;have ho:=hO.cell;have hfo:=hO.frozen;obtain⟨n,hn⟩:=Wr pre.length;rw[<-hn]at hc hK xQ;have yh:S<1024:=by rw[hS];exact Pn (TL pre)
  by_cases hk0:n<k
  ·have dk:decide ((k:Int)-(n:Int)<1)=false:=by simp;omega
   have hx9:x.val<=9:=by have:=x.2;omega
   obtain⟨S2,hS2⟩:=Wr (S|||2^x.val);have hor:=Va S x.val yh hx9;rw[<-hS2]at hor;have hwk:IntKind.i64.wrap ((k:Int)-(n:Int)-1)=(k:Int)-((n:Int)+1):=by rw[IntKind.wrap_i64];omega
   have hSn:S2=Fb (EK (pre++[x])):=by rw[hS2,hS];simp[EK,Fb,List.foldl_append]
   obtain⟨WD,hWD⟩:=Wr (((W.setCell ⟨w.heap.size+1,0,none⟩ (.int .i64 (S2:Int))).setCell ⟨w.heap.size,0,none⟩ (.int .i64 ((k:Int)-((n:Int)+1)))).drew);have hB1:Below w.heap.size W WD:=by rw[hWD];exact(((AC w.heap.size W).setCell (p:=⟨w.heap.size+1,0,none⟩) (Nat.le_succ _) _).setCell (p:=⟨w.heap.size,0,none⟩) (AB _) _).drew
   have hm1:Boxed WD (w.heap.size+2) 22 (.int .i64 M):=by rw[hWD];exact(hm.other (by omega) _).other (by omega) _
   have hO1:Boxed WD (w.heap.size+1) 22 (.int .i64 (S2:Int)):=by rw[hWD];exact(hO.set (.int .i64 (S2:Int))).other (by omega) _
   have hK1:Boxed WD w.heap.size 3 (.int .i64 ((k:Int)-((n:Int)+1))):=by rw[hWD];exact Boxed.set _ (hK.other (by omega) _)
   have hAx:(∀B,KeepsFrom B W WD)/\Ew w.heap.size (w.heap.size+2) W WD/\
     ((pre++[x]).length<=k/\Boxed WD w.heap.size 3 (.int .i64 ((k:Int)-(pre++[x]).length))/\Boxed WD (w.heap.size+1) 22 (.int .i64 ((Fb (EK (pre++[x])):Nat):Int))/\Boxed WD (w.heap.size+2) 22 (.int .i64 M))/\
     Wx w WD:=
    ⟨fun B=>by rw[hWD];exact(((KeepsOthers.setCell _ _ _).trans (KeepsOthers.setCell _ _ _)).trans (KeepsOthers.drew _)).from B,⟨hB1,hm1.trans hm.symm⟩,⟨by rw[AI,List.length_singleton,<-hn];omega,by rw[AI,List.length_singleton,<-hn,Int.natCast_add];exact hK1,by rw[<-hSn];exact hO1,hm1⟩,hB.trans hB1⟩
   have HF:=AA hAx;have HWD:=AA hWD;clear hAx hB1 hm1 hO1 hK1 hS2 hSn hS hn hO hK hm hWD
   gi_wp2
   gi_region
   all_goals gi_wp2
   all_goals (rw[<-HWD.out];exact⟨HF.out.1 _,HF.out.2⟩)
  ·have dk:decide ((k:Int)-(n:Int)<1)=true:=by simp;omega
   have hnk:n=k:=by omega
   have hAx:k<(pre++[x]).length/\Boxed W (w.heap.size+1) 22 (.int .i64 ((Fb ((EK (pre++[x])).take k):Nat):Int)):=
    ⟨by rw[AI,List.length_singleton,<-hn];omega,by
     rw[show(EK (pre++[x])).take k=EK pre by
      rw[show EK (pre++[x])=EK pre++[x.val]by simp[EK],<-hnk,hn,<-Hi pre,List.take_left],<-hS]
     exact hO⟩
   have HF:=AA hAx;clear hAx hS hn hO hK hm
   gi_wp2
   exact⟨KeepsFrom.refl _ _,⟨rfl,HF.out⟩,hB⟩
 case done=>
  rintro D ys W hD hys ⟨⟨xQ,hK,hO,hm⟩,hB⟩ hKD;have hc:=hO.cell
  gi_wp2
  refine⟨by simp,.inl ⟨_,_,rfl,run_takeDeferred hKD,?_⟩⟩;refine⟨_,results_tmp rfl _ _ _,?_,hB.trans (belowK_b (w:=w) (AB _) W D _ _ (by omega) hKD rfl rfl)⟩;unfold CR;rw[<-hys,AT (by rw[Hi];exact xQ)];rfl
 case stop=>
  rintro D c pre W hD ⟨i,hi,hCO⟩ ⟨⟨rfl,xQ,hO⟩,hB⟩ hKD;have hc:=hO.cell
  gi_wp2
  refine⟨by simp,.inl ⟨_,_,rfl,run_takeDeferred hKD,?_⟩⟩;refine⟨_,results_tmp rfl _ _ _,?_,hB.trans (belowK_b (w:=w) (AB _) W D _ _ (by omega) hKD rfl rfl)⟩;unfold CR;rw[Rc hi (by rw[<-hCO,Hi];omega)];rfl
end
section
open Go.RowKit Go.Shelf
attribute [local go_sem ↓] Go.wp_at_zero Go.wp_at_succ Aq Au Av Aw Dl
attribute [local go_sem] BE BL BM BN FE AR AX AU
theorem P9{w:World}{b:Nat}{M f:Int}{q s:Nat}{p:Nm}{A:Option Addr}{c mo:Nat}{O:List Vt}{ow:Int->Int->Bool}(h:FL w b M (q:Int) (s:Int) f p A c mo O ow)(hq:q=Bd (Ae (xOf M) 10))(yg:q<=10)(A':Option Addr)(n' c':Nat)(l:List Vt)(hn:l.length=n')(hr:Rd w w.heap.size A' (l.flatMap vtc))(hsm:n'<=1000000)(hl:∀v∈l,AW v)(hs:(xOf M).testBit s=true)(wt:Bool):Calls prog 161 #[.pointer (some ⟨b,0,none⟩),.slice A' n' c',.bool wt] w (DA (EJ M q p s f l wt ow) w):=by
 obtain⟨w1,hw1⟩:=Wr (w.alloc (.cells Ai 46));have hb1:Wx w w1:=by rw[hw1];exact(AC _ _).alloc (AB _) _
 obtain⟨g,hg⟩:=Wr w.heap.size;have hG1:Blk w1 g 46 Ai:=by rw[hw1,hg];exact Blk.new w _ _
 have hgw:w.heap.size<=g:=by omega
 have hgl:g<w1.heap.size:=hG1.lt;have hV1:=h.below hb1;have HV:Hid (∀V,Wx w1 V->FL V b M (q:Int) (s:Int) f p A c mo O ow):=fun V hV=>hV1.below hV
 have HG:Hid (∀V,Wx w1 V->Blk V g 46 Ai):=fun V hV=>hG1.below hV hG1.lt
 have HS:Hid (∀V,Wx w1 V->V.cell? ⟨b,0,none⟩=some (.int .i64 M)/\AK V b 4 8=some p.cells/\V.cell? ⟨b,2,none⟩=some (.int .i64 (s:Int))/\V.cell? ⟨b,1,none⟩=some (.int .i64 (q:Int))):=fun V hV=>⟨(hV1.below hV).blk.cell 0,(hV1.below hV).row_parent,(hV1.below hV).blk.cell 2,(hV1.below hV).blk.cell 1⟩
 have hBP:=AA (Do hV1 3 1);have HRl:Hid (∀V,Wx w1 V->Rd V V.heap.size A' (l.flatMap vtc)):=fun V hV=>(hr.below (hb1.trans (hV.mono hb1.size))).more (AG hb1.size hV.size)
 have HCe:Hid (∀V,Wx w1 V->Calls prog 207 #[.int .i64 M,p.val,.slice A' n' c',.int .i64 (s:Int)] V (JE M p s 2 q l V)):=fun V hV=>by rw[hq];exact P7 M p A' n' c' l s V hn (HRl.out V hV) hsm hl hs
 have HEc:Hid (∀(k:Nm) (V:World),Wx w1 V->Calls prog 208 #[.int .i64 M,p.val,.slice A' n' c',.int .i64 (s:Int),k.val] V (Iu M p s l k V)):=fun k V hV=>MV M p A' n' c' l s k V hn (HRl.out V hV) hsm hl hs
 have HLo:Hid (∀(X:Int) (V:World),Calls prog 209 #[.int .i64 X,.int .i64 (q:Int)] V fun e w'=>e= .returned (.int .i64 ((CR (xOf X) q:Nat):Int))/\Wx V w'):=fun X V=>Le X q yg V
 have HVo:Hid (∀(V:World) (x:Vl) (sup:Int),Wx w1 V->Calls prog 206 #[.pointer (some ⟨b,0,none⟩),.int .i64 3,.int .i64 1,x.val,.int .i64 sup] V (fun e w'=>e= .returned (.tuple #[(Vt.mk 3 (s:Int) 1 x.choice f sup p x.name).val,.bool true])/\Wx V w')):=fun V x sup hV=>Ga (hV1.below hV) 3 1 x sup
 have hN6:l.length<=1000000:=by omega
 have HSg9:Hid (∀O,D0 M p (s:Int) (slB s l) O->∀v∈O,0<=v.signer/\v.signer<=9):=fun O hO v hv=>(hl v (Og (hO.1.2 v hv).1).1).2.1
 have HB1:=AA hb1;have HW1:=AA hw1;have HGg:=AA hg;obtain⟨d,hd⟩:=Wr (ow 3 1);rw[<-hd]at hBP;have hbx:Wx w1 w1:=AC _ _;clear h hn hr hsm hl hs hw1 hb1 hg hG1 hV1 hq yg;go_enter func161,ntmps161;go_upto_region 1 with fail
 simp only[<-HW1.out,<-HGg.out];cases d with
 |true=>
  have HD:=AA hd.symm;clear hd;go_wp2_with (first
   |(go_at_call 204;refine hBP.out.mono ?_;rintro en w2 ⟨rfl,hw2⟩;replace hw2:=hw2.symm;subst hw2)
   |(refine AJ rfl 46 (.tmp 6) (.tmp 12) rfl g Ai rfl rfl 46 Ai (HG.out _ hbx) rfl Ao (fun u hu=>CL hu) ?_;intro w9 hR9 hg9 xg))
  refine bodyPost_ret (Ac (g:=g) (cs:=Ai) rfl _ _ _ _ _ rfl hR9 underlying46 rfl Ao) rfl ⟨none,rfl,.inl HD.out,?_⟩;exact HB1.out.grown hg9 HB1.out.size (Wt hgw)
 |false=>
  have HD:=AA hd.symm;clear hd;go_upto_region 3 with(go_at_call 204;refine hBP.out.mono ?_;rintro en w2 ⟨rfl,hw2⟩;replace hw2:=hw2.symm;subst hw2)
  refine rgD (fun V=>V.cell? ⟨b,0,none⟩=some (.int .i64 M)/\AK V b 4 8=some p.cells/\V.cell? ⟨b,2,none⟩=some (.int .i64 (s:Int))/\V.cell? ⟨b,1,none⟩=some (.int .i64 (q:Int))) (HS.out _ hbx.drew) fun _=>?_
  iterate 13 (refine tkA ?_;go_frame)
  refine rd1 13 fun K hK=>?_
  go_simp;refine(HCe.out _ hbx.drew).mono ?_;rintro en w3 ⟨v3,O3,L,rfl,hO3,hA3,hL3,xC,hb3⟩;have xD:=hbx.drew.trans (hb3.mono (AB _));obtain⟨A3,c3,rfl,hR3,hCc⟩:∃A1 c1,v3= .slice A1 L.length c1/\Rd w3 w3.heap.size A1 (L.flatMap nmc)/\∀p':Addr,A1=some p'->some p'.block≠some g:=(by
   rcases xC.2 with⟨rfl,h0⟩|⟨g',cap,cur,rfl,hg',_⟩
   ·exact⟨none,0,by rw[h0],.inl (AQ (by rw[xC.1,h0,Nat.zero_mul])),fun p' h=>(by cases h)⟩
   ·exact⟨_,cap,rfl,Rd.of_own xC,fun p' h e=>by injection h with h;subst h;injection e with e;exact absurd e (Nat.ne_of_gt (Nat.lt_of_lt_of_le hgl hg'))⟩)
  have HNe:=AA hCc;clear hCc;have HR3:=AA hR3;have HO3:=AA hO3;have HA3:=AA hA3;obtain⟨nL,hnL⟩:=Ws L.length;rw[hnL]at hL3 ⊢;have HNL:=AA hnL;clear xC hR3 hO3 hA3 hb3 hnL;go_wp2_with fail
  refine hK.out _ _ (HS.out _ xD) (fun _=>?_);clear hK K;try go_frame
  refine tkD 8 14 ?_;go_frame;refine dnD ?_;have hDY:nL<=1000000:=by omega
  rcases Nat.eq_zero_or_pos nL with h0|h0
  ·subst h0;have hDR:L=[]:=AQ HNL.out;subst hDR;cases wt with
   |true=>
    obtain⟨v,hv⟩:∃v:Vt,v=Vt.mk 3 (s:Int) 1 0 f 0 p Nm.zero:=⟨_,rfl⟩;have HVv:=AA hv;have zg:Hid (∀(V:World),Wx w1 V->Calls prog 206 #[.pointer (some ⟨b,0,none⟩),.int .i64 3,.int .i64 1,.agg Cb,.int .i64 0] V (fun e w'=>e= .returned (.tuple #[v.val,.bool true])/\Wx V w')):=fun V hV=>by rw[hv];exact HVo.out V Vl.zero 0 hV
    clear hv;go_wp2_with (first
     |(go_at_call 206;refine(zg.out _ xD).mono ?_;rintro en w7 ⟨rfl,hb7⟩;have xc:=xD.trans (hb7.mono xD.size))
     |(refine AJ rfl 46 (.tmp 6) (.tmp 67) rfl g (v).cells rfl rfl 46 Ai (HG.out _ xc) rfl Ao (fun u hu=>BH _ hu) ?_;intro w9 hR9 hg9 xg))
    have zS:=HB1.out.trans (xc.mono HB1.out.size);refine bodyPost_ret (Ac (g:=g) (cs:=(v).cells) rfl _ _ _ _ _ rfl hR9 underlying46 rfl Ao) rfl ⟨some (v),rfl,⟨HD.out,.inr ⟨rfl,⟨O3,HO3.out,HA3.out⟩,HVv.out⟩⟩,?_⟩;exact Below.grown (zS) hg9 (Below.size (zS)) (Wt hgw)
   |false=>
    have xd:=HB1.out.trans (xD.mono HB1.out.size);go_wp2_with (refine AJ rfl 46 (.tmp 6) (.tmp 63) rfl g Ai rfl rfl 46 Ai (HG.out _ xD) rfl Ao (fun u hu=>CL hu) ?_;intro w9 hR9 hg9 xg)
    refine bodyPost_ret (Ac (g:=g) (cs:=Ai) rfl _ _ _ _ _ rfl hR9 underlying46 rfl Ao) rfl ⟨none,rfl,.inr ⟨rfl,O3,HO3.out,HA3.out⟩,?_⟩;exact Below.grown (xd) hg9 (Below.size (xd)) (Wt hgw)
  ·have d0:=Wu (show 0<nL by omega)
   obtain⟨x,hx⟩:∃x,L[0]? =some x:=⟨_,AE (by rw[HNL.out];exact h0)⟩;obtain⟨g0,o,rfl,hb,xH⟩:=HR3.out.cells (by intro e;have:=AY nmc 8 L (Cm L);rw[e,HNL.out]at this;simp at this;omega);clear xH;have HX3:Hid (∀V,Wx w3 V->AK V g0 o 8=some x.cells):=fun V hV=>by have:=(HR3.out.below hV).row hx;rwa[Nat.zero_mul,Nat.add_zero]at this
   have hxa:=(HA3.out x).1 (AN hx);have HXa:=AA hxa;have HX0:=AA hx;have HS3:Hid (∀V,Wx w3 V->V.cell? ⟨b,0,none⟩=some (.int .i64 M)/\AK V b 4 8=some p.cells/\V.cell? ⟨b,2,none⟩=some (.int .i64 (s:Int))/\V.cell? ⟨b,1,none⟩=some (.int .i64 (q:Int))/\AK V g0 o 8=some x.cells):=fun V hV=>by
    obtain⟨h1,h2,h3,h4⟩:=HS.out V (xD.trans (hV.mono xD.size));exact⟨h1,h2,h3,h4,HX3.out V hV⟩
   have hEb:Wx w3 w3:=AC _ _;have hln:(0:Int)<(nL:Int):=by omega
   clear hx hxa;go_upto_region 5 with fail
   refine rgD (fun V=>V.cell? ⟨b,0,none⟩=some (.int .i64 M)/\AK V b 4 8=some p.cells/\V.cell? ⟨b,2,none⟩=some (.int .i64 (s:Int))/\V.cell? ⟨b,1,none⟩=some (.int .i64 (q:Int))/\AK V g0 o 8=some x.cells) (HS3.out _ hEb.drew) fun _=>?_
   iterate 16 (refine tkA ?_;go_frame)
   refine rd1 16 fun K hK=>?_
   go_simp;refine(HEc.out x _ (xD.trans (hEb.drew.mono xD.size))).mono ?_;rintro en w5 ⟨O5,rfl,hO5,hb5⟩;have ye:=hEb.drew.trans (hb5.mono (AB _));obtain⟨S5,hS5⟩:=Wr (BX (pK 2 x) O5);have hGS:S5<1024:=(by rw[hS5];exact Fa (HSg9.out O5 hO5));rw[<-hS5];have HO5:=AA hO5;have HS5:=AA hS5;clear hO5 hS5 hb5;go_wp2_with fail
   refine hK.out _ _ (HS3.out _ ye) (fun _=>?_);clear hK K;try go_frame
   refine tkD 9 17 ?_;go_frame;refine dnD ?_;go_upto_region 6 with fail
   have xa:=xD.trans (ye.mono xD.size);obtain⟨lw,hlw⟩:=Wr (CR S5 q);have HLo5:Hid (∀V,Calls prog 209 #[.int .i64 (S5:Int),.int .i64 (q:Int)] V fun e w'=>e= .returned (.int .i64 (lw:Int))/\Wx V w'):=fun V=>by
    have h:=HLo.out (S5:Int) V;rwa[DU S5 hGS,<-hlw]at h
   obtain⟨v,hv⟩:∃v:Vt,v=Vt.mk 3 (s:Int) 1 1 f (lw:Int) p x:=⟨_,rfl⟩;have HVv:=AA hv;have HLw:=AA hlw;have zg:Hid (∀(V:World),Wx w1 V->Calls prog 206 #[.pointer (some ⟨b,0,none⟩),.int .i64 3,.int .i64 1,(Vl.mk 1 x).val,.int .i64 (lw:Int)] V (fun e w'=>e= .returned (.tuple #[v.val,.bool true])/\Wx V w')):=fun V hV=>by rw[hv];exact HVo.out V (Vl.mk 1 x) lw hV
   have HK9:Hid (∀V V',Wx w3 V->V.grownBy V' (some g)->V'.cell? ⟨b,0,none⟩=some (.int .i64 M)/\AK V' b 4 8=some p.cells/\V'.cell? ⟨b,2,none⟩=some (.int .i64 (s:Int))/\V'.cell? ⟨b,1,none⟩=some (.int .i64 (q:Int))/\AK V' g0 o 8=some x.cells):=fun V V' hV hg=>by
    have hv:=HV.out V (xD.trans (hV.mono xD.size));have hbg:b≠g:=by intro e;have h1:=hv.blk;have h2:=HG.out V (xD.trans (hV.mono xD.size));rw[e]at h1;exact absurd (Cw h1 h2) (by decide)
    have hb9:=hv.blk.kept hg (by intro e;injection e with e;exact hbg e);refine⟨hb9.cell 0,Blk.part hb9 4 p.cells (fun j u hu=>by
     have hj:j<8:=(Aa.1 hu).1;rcases(by omega:j=0∨j=1∨j=2∨j=3∨j=4∨j=5∨j=6∨j=7)with rfl|rfl|rfl|rfl|rfl|rfl|rfl|rfl <;> exact hu),hb9.cell 2,hb9.cell 1,?_⟩
    have h9:=(((HR3.out.below hV).kept hg hV.size HNe.out).row HX0.out);rwa[Nat.zero_mul,Nat.add_zero]at h9
   clear hv hlw;refine rgD (fun V=>V.cell? ⟨b,0,none⟩=some (.int .i64 M)/\AK V b 4 8=some p.cells/\V.cell? ⟨b,2,none⟩=some (.int .i64 (s:Int))/\V.cell? ⟨b,1,none⟩=some (.int .i64 (q:Int))/\AK V g0 o 8=some x.cells) (HS3.out _ ye.drew) fun _=>?_
   iterate 4 (refine tkA ?_;go_frame)
   refine tkV 51 4 ((Vl.mk 1 x).val) (fun wq _=>F5 1 x (.const (.int .i64 1)) (.tmp 50) rfl rfl rfl wq) ?_;go_frame
   iterate 5 (refine tkA ?_;go_frame)
   refine rd1 10 fun K hK=>?_
   go_simp;refine(HLo5.out _).mono ?_;rintro en w6 ⟨rfl,hb6⟩;have hAy:=ye.drew.trans (hb6.mono ye.size);go_wp2_with fail
   refine hK.out _ _ (HS3.out _ hAy) (fun _=>?_);clear hK K;try go_frame
   refine rd1 11 fun K hK=>?_
   go_simp;refine(zg.out _ (xD.trans (hAy.mono xD.size))).mono ?_;rintro en w7 ⟨rfl,hb7⟩;have hCj:=hAy.trans (hb7.mono hAy.size);have xc:=xD.trans (hCj.mono xD.size);go_wp2_with fail
   refine hK.out _ _ (HS3.out _ hCj) (fun _=>?_);clear hK K;try go_frame
   iterate 2 (refine tkA ?_;go_frame)
   refine rd1 14 fun K hK=>?_
   rw[if_pos (by rfl)];refine BU 46 (.tmp 6) (.tmp 59) (by rfl) g v.cells (by rfl) (by rfl) 46 Ai (HG.out _ xc) (by rfl) Ao (fun u hu=>BH _ hu) (by rfl) ?_;intro w9 hR9 hg9 xg;refine hK.out _ _ (HK9.out _ _ hCj hg9) (fun _=>?_);clear hK K;try go_frame
   refine tkD 7 15 ?_;go_frame;refine dnD ?_;go_wp2_with fail
   have zS:=HB1.out.trans (xc.mono HB1.out.size);refine bodyPost_ret (Ac (g:=g) (cs:=(v).cells) rfl _ _ _ _ _ rfl hR9 underlying46 rfl Ao) rfl ⟨some (v),rfl,⟨HD.out,.inl ⟨O3,O5,x,HO3.out,HO5.out,HXa.out.1,HXa.out.2,by rw[<-HS5.out,<-HLw.out];exact HVv.out⟩⟩,?_⟩;exact Below.grown (zS) hg9 (Below.size (zS)) (Wt hgw)
theorem V4(x:Vl)(b n0:Nat)(W0:World)(hb:b<n0)(hB0:Blk W0 b 258 x.cells):B5 n0 W0 212 #[.pointer (some ⟨b,0,none⟩)] (fun v=>decide (Bh v=x)):=by
 refine⟨enters_of func212 (by kernel_rfl) rfl,fun V hV u hu=>?_⟩;have hB:=hB0.below hV hb;obtain⟨W1,hW1⟩:=Wr (V.alloc (Obj.cells u.cells 46));obtain⟨z,hz⟩:=Wr V.heap.size;have hbw:Wx V W1:=by rw[hW1];exact(AC _ _).alloc (AB _) _
 have hB1:Blk W1 b 258 x.cells:=hB.below hbw hB.lt;have hZ1:Blk W1 z 46 u.cells:=by rw[hW1,hz];exact Blk.new V _ _
 have HS:Hid (∀W,Wx W1 W->AK W z 0 22=some u.cells/\AK W b 0 9=some x.cells):=fun W hW=>⟨(hZ1.below hW hZ1.lt).row 22 rfl,(hB1.below hW hB1.lt).row 9 rfl⟩
 obtain⟨y,hy⟩:=Wr (Bh u);have HOf:Hid (∀W,Calls prog 213 #[u.val] W fun e w'=>e= .returned y.val/\Wx W w'):=fun W=>by rw[hy];exact KG u W
 rw[<-hy];obtain⟨k,hk⟩:=Wr (decide (y=x));have e9:∀W,(Op.equalIn 10000 258 (.agg y.cells) (.agg x.cells)).run prog W= .ok k W:=fun W=>by rw[hk];exact VZ y x W
 rw[<-hk];have HW1:=AA hW1;have HZ:=AA hz;have HBw:=AA hbw;have hbx:Wx W1 W1:=AC _ _;clear hB hB1 hZ1 hW1 hz hbw hB0 hy hk hV hb;show Calls prog 212 #[u.val,.pointer (some ⟨b,0,none⟩)] V _;go_enter func212,ntmps212;go_upto_region 1 with fail
 simp only[<-HW1.out,<-HZ.out];refine rgD (fun W=>AK W z 0 22=some u.cells/\AK W b 0 9=some x.cells) (HS.out _ hbx.drew) fun _=>?_
 refine tkD 4 0 ?_;go_frame;refine tkD 6 2 ?_;go_frame;refine rd1 1 fun K hK=>?_
 go_simp;refine(HOf.out _).mono ?_;rintro en w2 ⟨rfl,hb2⟩;have xu:=hbx.drew.trans (hb2.mono (AB _));go_wp2_with fail
 refine hK.out _ _ (HS.out _ xu) (fun _=>?_);clear hK K;try go_frame
 iterate 2 (refine tkA ?_;go_frame)
 refine dnD ?_;go_wp2;go_ret;exact⟨rfl,HBw.out.trans (xu.mono HBw.out.size)⟩
theorem V5(x:Vl)(b n0:Nat)(W0:World)(hb:b<n0)(hB0:Blk W0 b 258 x.cells):B5 n0 W0 217 #[.pointer (some ⟨b,0,none⟩)] (fun v=>decide (Bh v=x)):=by
 refine⟨enters_of func217 (by kernel_rfl) rfl,fun V hV u hu=>?_⟩;have hB:=hB0.below hV hb;obtain⟨W1,hW1⟩:=Wr (V.alloc (Obj.cells u.cells 46));obtain⟨z,hz⟩:=Wr V.heap.size;have hbw:Wx V W1:=by rw[hW1];exact(AC _ _).alloc (AB _) _
 have hB1:Blk W1 b 258 x.cells:=hB.below hbw hB.lt;have hZ1:Blk W1 z 46 u.cells:=by rw[hW1,hz];exact Blk.new V _ _
 have HS:Hid (∀W,Wx W1 W->AK W z 0 22=some u.cells/\AK W b 0 9=some x.cells):=fun W hW=>⟨(hZ1.below hW hZ1.lt).row 22 rfl,(hB1.below hW hB1.lt).row 9 rfl⟩
 obtain⟨y,hy⟩:=Wr (Bh u);have HOf:Hid (∀W,Calls prog 213 #[u.val] W fun e w'=>e= .returned y.val/\Wx W w'):=fun W=>by rw[hy];exact KG u W
 rw[<-hy];obtain⟨k,hk⟩:=Wr (decide (y=x));have e9:∀W,(Op.equalIn 10000 258 (.agg y.cells) (.agg x.cells)).run prog W= .ok k W:=fun W=>by rw[hk];exact VZ y x W
 rw[<-hk];have HW1:=AA hW1;have HZ:=AA hz;have HBw:=AA hbw;have hbx:Wx W1 W1:=AC _ _;clear hB hB1 hZ1 hW1 hz hbw hB0 hy hk hV hb;show Calls prog 217 #[u.val,.pointer (some ⟨b,0,none⟩)] V _;go_enter func217,ntmps217;go_upto_region 1 with fail
 simp only[<-HW1.out,<-HZ.out];refine rgD (fun W=>AK W z 0 22=some u.cells/\AK W b 0 9=some x.cells) (HS.out _ hbx.drew) fun _=>?_
 refine tkD 4 0 ?_;go_frame;refine tkD 6 2 ?_;go_frame;refine rd1 1 fun K hK=>?_
 go_simp;refine(HOf.out _).mono ?_;rintro en w2 ⟨rfl,hb2⟩;have xu:=hbx.drew.trans (hb2.mono (AB _));go_wp2_with fail
 refine hK.out _ _ (HS.out _ xu) (fun _=>?_);clear hK K;try go_frame
 iterate 2 (refine tkA ?_;go_frame)
 refine dnD ?_;go_wp2;go_ret;exact⟨rfl,HBw.out.trans (xu.mono HBw.out.size)⟩
theorem V6(n0:Nat)(W0:World):B5 n0 W0 215 #[] (fun _=>true):=by
 refine⟨enters_of func215 (by kernel_rfl) rfl,fun V hV u hu=>?_⟩;show Calls prog 215 #[u.val] V _;have hbw:Wx V (V.alloc (Obj.cells u.cells 46)):=(AC _ _).alloc (AB _) _;go_enter func215,ntmps215;go_wp2;go_ret;exact⟨rfl,hbw⟩
theorem V7(n0:Nat)(W0:World):B5 n0 W0 216 #[] (fun v=>decide (v.choice=2)):=by
 refine⟨enters_of func216 (by kernel_rfl) rfl,fun V hV u hu=>?_⟩;show Calls prog 216 #[u.val] V _;have hbw:Wx V (V.alloc (Obj.cells u.cells 46)):=(AC _ _).alloc (AB _) _;have x3:(V.alloc (Obj.cells u.cells 46)).cell? ⟨V.heap.size,3,none⟩=some (.int .i64 u.choice):=(Blk.new V 46 u.cells).cell 3;obtain⟨k,hk⟩:=Wr (decide (u.choice=2));have e3:(u.choice==2)=k:=by rw[hk];rfl
 rw[<-hk];clear hk;go_enter func216,ntmps216;go_wp2;go_ret;exact⟨rfl,hbw⟩
end
end Go.Proofs.YtadllffeoibelaaGreat
