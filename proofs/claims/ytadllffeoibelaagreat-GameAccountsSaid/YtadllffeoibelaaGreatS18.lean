/-
  Parts of the proof. No condition.
-/
import Derived.Test.YtadllffeoibelaaGreatS17
open Go.Proofs.Tryz
namespace Go.Proofs.YtadllffeoibelaaGreat
set_option maxRecDepth 100000
set_option maxHeartbeats 32000000
set_option linter.all false
section
open Go.RowKit Go.Shelf
attribute [local go_sem ↓] Go.wp_at_zero Go.wp_at_succ Aj Ao Ap Aq Dv
attribute [local go_sem] Ax BB BC BD Fd AK AR AN
theorem Rk{w:World}{b:Nat}{M f:Int}{q s:Nat}{p:Nm}{A:Option Addr}{c mo:Nat}{O:List Vt}{ow:Int->Int->Bool}(h:Fh w b M (q:Int) (s:Int) f p A c mo O ow)(hq:q=CH (Aw (xOf M) 10))(yt:q<=10)(A':Option Addr)(n' c':Nat)(l:List Vt)(hn:l.length=n')(hr:Rd w w.heap.size A' (l.flatMap vtc))(hsm:n'<=1000000)(hl:∀v∈l,Ab v)(hs:(xOf M).testBit s=true)(wt:Bool):Calls prog 161 #[.pointer (some ⟨b,0,none⟩),.slice A' n' c',.bool wt] w (DO (Ed M q p s f l wt ow) w):=by
 obtain⟨w1,hw1⟩:=ZH (w.alloc (.cells Ad 46));have hb1:ZN w w1:=by rw[hw1];exact(AC _ _).alloc (AB _) _
 obtain⟨g,hg⟩:=ZH w.heap.size;have hG1:Blk w1 g 46 Ad:=by rw[hw1,hg];exact Blk.new w _ _
 have hgw:w.heap.size<=g:=by omega
 have hgl:g<w1.heap.size:=hG1.lt;have hV1:=h.below hb1;have HV:Hid (∀V,ZN w1 V->Fh V b M (q:Int) (s:Int) f p A c mo O ow):=fun V hV=>hV1.below hV
 have HG:Hid (∀V,ZN w1 V->Blk V g 46 Ad):=fun V hV=>hG1.below hV hG1.lt
 have HS:Hid (∀V,ZN w1 V->V.cell? ⟨b,0,none⟩=some (.int .i64 M)/\AJ V b 4 8=some p.cells/\V.cell? ⟨b,2,none⟩=some (.int .i64 (s:Int))/\V.cell? ⟨b,1,none⟩=some (.int .i64 (q:Int))):=fun V hV=>⟨(hV1.below hV).blk.cell 0,(hV1.below hV).row_parent,(hV1.below hV).blk.cell 2,(hV1.below hV).blk.cell 1⟩
 have hBe:=AA (Dy hV1 3 1);have HRl:Hid (∀V,ZN w1 V->Rd V V.heap.size A' (l.flatMap vtc)):=fun V hV=>(hr.below (hb1.trans (hV.mono hb1.size))).more (AG hb1.size hV.size)
 have HCe:Hid (∀V,ZN w1 V->Calls prog 207 #[.int .i64 M,p.val,.slice A' n' c',.int .i64 (s:Int)] V (KB M p s 2 q l V)):=fun V hV=>by rw[hq];exact Ri M p A' n' c' l s V hn (HRl.out V hV) hsm hl hs
 have HEc:Hid (∀(k:Nm) (V:World),ZN w1 V->Calls prog 208 #[.int .i64 M,p.val,.slice A' n' c',.int .i64 (s:Int),k.val] V (Ji M p s l k V)):=fun k V hV=>Nq M p A' n' c' l s k V hn (HRl.out V hV) hsm hl hs
 have HLo:Hid (∀(X:Int) (V:World),Calls prog 209 #[.int .i64 X,.int .i64 (q:Int)] V fun e w'=>e= .returned (.int .i64 ((IN (xOf X) q:Nat):Int))/\ZN V w'):=fun X V=>Mj X q yt V
 have HVo:Hid (∀(V:World) (x:Vl) (sup:Int),ZN w1 V->Calls prog 206 #[.pointer (some ⟨b,0,none⟩),.int .i64 3,.int .i64 1,x.val,.int .i64 sup] V (fun e w'=>e= .returned (.tuple #[(Vt.mk 3 (s:Int) 1 x.choice f sup p x.name).val,.bool true])/\ZN V w')):=fun V x sup hV=>Gw (hV1.below hV) 3 1 x sup
 have hN6:l.length<=1000000:=by omega
 have HSg9:Hid (∀O,FP M p (s:Int) (slB s l) O->∀v∈O,0<=v.signer/\v.signer<=9):=fun O hO v hv=>(hl v (Qa (hO.1.2 v hv).1).1).2.1
 have HB1:=AA hb1;have HW1:=AA hw1;have HGg:=AA hg;obtain⟨d,hd⟩:=ZH (ow 3 1);rw[<-hd]at hBe;have hbx:ZN w1 w1:=AC _ _;clear h hn hr hsm hl hs hw1 hb1 hg hG1 hV1 hq yt;go_enter func161,ntmps161;go_upto_region 1 with fail
 simp only[<-HW1.out,<-HGg.out];cases d with
 |true=>
  have HD:=AA hd.symm;clear hd;go_wp2_with (first
   |(go_at_call 204;refine hBe.out.mono ?_;rintro en w2 ⟨rfl,hw2⟩;replace hw2:=hw2.symm;subst hw2)
   |(refine AI rfl 46 (.tmp 6) (.tmp 12) rfl g Ad rfl rfl 46 Ad (HG.out _ hbx) rfl Au (fun u hu=>CR hu) ?_;intro w9 hR9 hg9 xu))
  refine bodyPost_ret (AW (g:=g) (cs:=Ad) rfl _ _ _ _ _ rfl hR9 underlying46 rfl Au) rfl ⟨none,rfl,.inl HD.out,?_⟩;exact HB1.out.grown hg9 HB1.out.size (ZJ hgw)
 |false=>
  have HD:=AA hd.symm;clear hd;go_upto_region 3 with(go_at_call 204;refine hBe.out.mono ?_;rintro en w2 ⟨rfl,hw2⟩;replace hw2:=hw2.symm;subst hw2)
  refine rgD (fun V=>V.cell? ⟨b,0,none⟩=some (.int .i64 M)/\AJ V b 4 8=some p.cells/\V.cell? ⟨b,2,none⟩=some (.int .i64 (s:Int))/\V.cell? ⟨b,1,none⟩=some (.int .i64 (q:Int))) (HS.out _ hbx.drew) fun _=>?_
  iterate 13 (refine tkA ?_;go_frame)
  refine rd1 13 fun K hK=>?_
  go_simp;refine(HCe.out _ hbx.drew).mono ?_;rintro en w3 ⟨v3,O3,L,rfl,hO3,hA3,hL3,xD,hb3⟩;have xI:=hbx.drew.trans (hb3.mono (AB _));obtain⟨A3,c3,rfl,hR3,hCy⟩:∃A1 c1,v3= .slice A1 L.length c1/\Rd w3 w3.heap.size A1 (L.flatMap nmc)/\∀p':Addr,A1=some p'->some p'.block≠some g:=(by
   rcases xD.2 with⟨rfl,h0⟩|⟨g',cap,cur,rfl,hg',_⟩
   ·exact⟨none,0,by rw[h0],.inl (AV (by rw[xD.1,h0,Nat.zero_mul])),fun p' h=>(by cases h)⟩
   ·exact⟨_,cap,rfl,Rd.of_own xD,fun p' h e=>by injection h with h;subst h;injection e with e;exact absurd e (Nat.ne_of_gt (Nat.lt_of_lt_of_le hgl hg'))⟩)
  have HNe:=AA hCy;clear hCy;have HR3:=AA hR3;have HO3:=AA hO3;have HA3:=AA hA3;obtain⟨nL,hnL⟩:=ZI L.length;rw[hnL]at hL3 ⊢;have HNL:=AA hnL;clear xD hR3 hO3 hA3 hb3 hnL;go_wp2_with fail
  refine hK.out _ _ (HS.out _ xI) (fun _=>?_);clear hK K;try go_frame
  refine tkD 8 14 ?_;go_frame;refine dnD ?_;have hDx:nL<=1000000:=by omega
  rcases Nat.eq_zero_or_pos nL with h0|h0
  ·subst h0;have hDr:L=[]:=AV HNL.out;subst hDr;cases wt with
   |true=>
    obtain⟨v,hv⟩:∃v:Vt,v=Vt.mk 3 (s:Int) 1 0 f 0 p Nm.zero:=⟨_,rfl⟩;have HVv:=AA hv;have zo:Hid (∀(V:World),ZN w1 V->Calls prog 206 #[.pointer (some ⟨b,0,none⟩),.int .i64 3,.int .i64 1,.agg Cr,.int .i64 0] V (fun e w'=>e= .returned (.tuple #[v.val,.bool true])/\ZN V w')):=fun V hV=>by rw[hv];exact HVo.out V Vl.zero 0 hV
    clear hv;go_wp2_with (first
     |(go_at_call 206;refine(zo.out _ xI).mono ?_;rintro en w7 ⟨rfl,hb7⟩;have xb:=xI.trans (hb7.mono xI.size))
     |(refine AI rfl 46 (.tmp 6) (.tmp 67) rfl g (v).cells rfl rfl 46 Ad (HG.out _ xb) rfl Au (fun u hu=>BO _ hu) ?_;intro w9 hR9 hg9 xu))
    have za:=HB1.out.trans (xb.mono HB1.out.size);refine bodyPost_ret (AW (g:=g) (cs:=(v).cells) rfl _ _ _ _ _ rfl hR9 underlying46 rfl Au) rfl ⟨some (v),rfl,⟨HD.out,.inr ⟨rfl,⟨O3,HO3.out,HA3.out⟩,HVv.out⟩⟩,?_⟩;exact Below.grown (za) hg9 (Below.size (za)) (ZJ hgw)
   |false=>
    have xj:=HB1.out.trans (xI.mono HB1.out.size);go_wp2_with (refine AI rfl 46 (.tmp 6) (.tmp 63) rfl g Ad rfl rfl 46 Ad (HG.out _ xI) rfl Au (fun u hu=>CR hu) ?_;intro w9 hR9 hg9 xu)
    refine bodyPost_ret (AW (g:=g) (cs:=Ad) rfl _ _ _ _ _ rfl hR9 underlying46 rfl Au) rfl ⟨none,rfl,.inr ⟨rfl,O3,HO3.out,HA3.out⟩,?_⟩;exact Below.grown (xj) hg9 (Below.size (xj)) (ZJ hgw)
  ·have d0:=ZK (show 0<nL by omega)
   obtain⟨x,hx⟩:∃x,L[0]? =some x:=⟨_,AD (by rw[HNL.out];exact h0)⟩;obtain⟨g0,o,rfl,hb,xH⟩:=HR3.out.cells (by intro e;have:=AY nmc 8 L (Cb L);rw[e,HNL.out]at this;simp at this;omega);clear xH;have HX3:Hid (∀V,ZN w3 V->AJ V g0 o 8=some x.cells):=fun V hV=>by have:=(HR3.out.below hV).row hx;rwa[Nat.zero_mul,Nat.add_zero]at this
   have hxa:=(HA3.out x).1 (AM hx);have HXa:=AA hxa;have HX0:=AA hx;have HS3:Hid (∀V,ZN w3 V->V.cell? ⟨b,0,none⟩=some (.int .i64 M)/\AJ V b 4 8=some p.cells/\V.cell? ⟨b,2,none⟩=some (.int .i64 (s:Int))/\V.cell? ⟨b,1,none⟩=some (.int .i64 (q:Int))/\AJ V g0 o 8=some x.cells):=fun V hV=>by
    obtain⟨h1,h2,h3,h4⟩:=HS.out V (xI.trans (hV.mono xI.size));exact⟨h1,h2,h3,h4,HX3.out V hV⟩
   have hFD:ZN w3 w3:=AC _ _;have hln:(0:Int)<(nL:Int):=by omega
   clear hx hxa;go_upto_region 5 with fail
   refine rgD (fun V=>V.cell? ⟨b,0,none⟩=some (.int .i64 M)/\AJ V b 4 8=some p.cells/\V.cell? ⟨b,2,none⟩=some (.int .i64 (s:Int))/\V.cell? ⟨b,1,none⟩=some (.int .i64 (q:Int))/\AJ V g0 o 8=some x.cells) (HS3.out _ hFD.drew) fun _=>?_
   iterate 16 (refine tkA ?_;go_frame)
   refine rd1 16 fun K hK=>?_
   go_simp;refine(HEc.out x _ (xI.trans (hFD.drew.mono xI.size))).mono ?_;rintro en w5 ⟨O5,rfl,hO5,hb5⟩;have yl:=hFD.drew.trans (hb5.mono (AB _));obtain⟨S5,hS5⟩:=ZH (Bx (pK 2 x) O5);have hHI:S5<1024:=(by rw[hS5];exact Gt (HSg9.out O5 hO5));rw[<-hS5];have HO5:=AA hO5;have HS5:=AA hS5;clear hO5 hS5 hb5;go_wp2_with fail
   refine hK.out _ _ (HS3.out _ yl) (fun _=>?_);clear hK K;try go_frame
   refine tkD 9 17 ?_;go_frame;refine dnD ?_;go_upto_region 6 with fail
   have xX:=xI.trans (yl.mono xI.size);obtain⟨lw,hlw⟩:=ZH (IN S5 q);have HLo5:Hid (∀V,Calls prog 209 #[.int .i64 (S5:Int),.int .i64 (q:Int)] V fun e w'=>e= .returned (.int .i64 (lw:Int))/\ZN V w'):=fun V=>by
    have h:=HLo.out (S5:Int) V;rwa[EO S5 hHI,<-hlw]at h
   obtain⟨v,hv⟩:∃v:Vt,v=Vt.mk 3 (s:Int) 1 1 f (lw:Int) p x:=⟨_,rfl⟩;have HVv:=AA hv;have HLw:=AA hlw;have zo:Hid (∀(V:World),ZN w1 V->Calls prog 206 #[.pointer (some ⟨b,0,none⟩),.int .i64 3,.int .i64 1,(Vl.mk 1 x).val,.int .i64 (lw:Int)] V (fun e w'=>e= .returned (.tuple #[v.val,.bool true])/\ZN V w')):=fun V hV=>by rw[hv];exact HVo.out V (Vl.mk 1 x) lw hV
   have HK9:Hid (∀V V',ZN w3 V->V.grownBy V' (some g)->V'.cell? ⟨b,0,none⟩=some (.int .i64 M)/\AJ V' b 4 8=some p.cells/\V'.cell? ⟨b,2,none⟩=some (.int .i64 (s:Int))/\V'.cell? ⟨b,1,none⟩=some (.int .i64 (q:Int))/\AJ V' g0 o 8=some x.cells):=fun V V' hV hg=>by
    have hv:=HV.out V (xI.trans (hV.mono xI.size));have hbg:b≠g:=by intro e;have h1:=hv.blk;have h2:=HG.out V (xI.trans (hV.mono xI.size));rw[e]at h1;exact absurd (CW h1 h2) (by decide)
    have hb9:=hv.blk.kept hg (by intro e;injection e with e;exact hbg e);refine⟨hb9.cell 0,Blk.part hb9 4 p.cells (fun j u hu=>by
     have hj:j<8:=(Aa.1 hu).1;rcases(by omega:j=0∨j=1∨j=2∨j=3∨j=4∨j=5∨j=6∨j=7)with rfl|rfl|rfl|rfl|rfl|rfl|rfl|rfl <;> exact hu),hb9.cell 2,hb9.cell 1,?_⟩
    have h9:=(((HR3.out.below hV).kept hg hV.size HNe.out).row HX0.out);rwa[Nat.zero_mul,Nat.add_zero]at h9
   clear hv hlw;refine rgD (fun V=>V.cell? ⟨b,0,none⟩=some (.int .i64 M)/\AJ V b 4 8=some p.cells/\V.cell? ⟨b,2,none⟩=some (.int .i64 (s:Int))/\V.cell? ⟨b,1,none⟩=some (.int .i64 (q:Int))/\AJ V g0 o 8=some x.cells) (HS3.out _ yl.drew) fun _=>?_
   iterate 4 (refine tkA ?_;go_frame)
   refine tkV 51 4 ((Vl.mk 1 x).val) (fun wq _=>GQ 1 x (.const (.int .i64 1)) (.tmp 50) rfl rfl rfl wq) ?_;go_frame
   iterate 5 (refine tkA ?_;go_frame)
   refine rd1 10 fun K hK=>?_
   go_simp;refine(HLo5.out _).mono ?_;rintro en w6 ⟨rfl,hb6⟩;have hBI:=yl.drew.trans (hb6.mono yl.size);go_wp2_with fail
   refine hK.out _ _ (HS3.out _ hBI) (fun _=>?_);clear hK K;try go_frame
   refine rd1 11 fun K hK=>?_
   go_simp;refine(zo.out _ (xI.trans (hBI.mono xI.size))).mono ?_;rintro en w7 ⟨rfl,hb7⟩;have hC8:=hBI.trans (hb7.mono hBI.size);have xb:=xI.trans (hC8.mono xI.size);go_wp2_with fail
   refine hK.out _ _ (HS3.out _ hC8) (fun _=>?_);clear hK K;try go_frame
   iterate 2 (refine tkA ?_;go_frame)
   refine rd1 14 fun K hK=>?_
   rw[if_pos (by rfl)];refine BN 46 (.tmp 6) (.tmp 59) (by rfl) g v.cells (by rfl) (by rfl) 46 Ad (HG.out _ xb) (by rfl) Au (fun u hu=>BO _ hu) (by rfl) ?_;intro w9 hR9 hg9 xu;refine hK.out _ _ (HK9.out _ _ hC8 hg9) (fun _=>?_);clear hK K;try go_frame
   refine tkD 7 15 ?_;go_frame;refine dnD ?_;go_wp2_with fail
   have za:=HB1.out.trans (xb.mono HB1.out.size);refine bodyPost_ret (AW (g:=g) (cs:=(v).cells) rfl _ _ _ _ _ rfl hR9 underlying46 rfl Au) rfl ⟨some (v),rfl,⟨HD.out,.inl ⟨O3,O5,x,HO3.out,HO5.out,HXa.out.1,HXa.out.2,by rw[<-HS5.out,<-HLw.out];exact HVv.out⟩⟩,?_⟩;exact Below.grown (za) hg9 (Below.size (za)) (ZJ hgw)
theorem YO(x:Vl)(b n0:Nat)(W0:World)(hb:b<n0)(hB0:Blk W0 b 258 x.cells):B5 n0 W0 212 #[.pointer (some ⟨b,0,none⟩)] (fun v=>decide (GD v=x)):=by
 refine⟨enters_of func212 (by kernel_rfl) rfl,fun V hV u hu=>?_⟩;have hB:=hB0.below hV hb;obtain⟨W1,hW1⟩:=ZH (V.alloc (Obj.cells u.cells 46));obtain⟨z,hz⟩:=ZH V.heap.size;have hbw:ZN V W1:=by rw[hW1];exact(AC _ _).alloc (AB _) _
 have hB1:Blk W1 b 258 x.cells:=hB.below hbw hB.lt;have hZ1:Blk W1 z 46 u.cells:=by rw[hW1,hz];exact Blk.new V _ _
 have HS:Hid (∀W,ZN W1 W->AJ W z 0 22=some u.cells/\AJ W b 0 9=some x.cells):=fun W hW=>⟨(hZ1.below hW hZ1.lt).row 22 rfl,(hB1.below hW hB1.lt).row 9 rfl⟩
 obtain⟨y,hy⟩:=ZH (GD u);have HOf:Hid (∀W,Calls prog 213 #[u.val] W fun e w'=>e= .returned y.val/\ZN W w'):=fun W=>by rw[hy];exact LG u W
 rw[<-hy];obtain⟨k,hk⟩:=ZH (decide (y=x));have e9:∀W,(Op.equalIn 10000 258 (.agg y.cells) (.agg x.cells)).run prog W= .ok k W:=fun W=>by rw[hk];exact Xy y x W
 rw[<-hk];have HW1:=AA hW1;have HZ:=AA hz;have HBw:=AA hbw;have hbx:ZN W1 W1:=AC _ _;clear hB hB1 hZ1 hW1 hz hbw hB0 hy hk hV hb;show Calls prog 212 #[u.val,.pointer (some ⟨b,0,none⟩)] V _;go_enter func212,ntmps212;go_upto_region 1 with fail
 simp only[<-HW1.out,<-HZ.out];refine rgD (fun W=>AJ W z 0 22=some u.cells/\AJ W b 0 9=some x.cells) (HS.out _ hbx.drew) fun _=>?_
 refine tkD 4 0 ?_;go_frame;refine tkD 6 2 ?_;go_frame;refine rd1 1 fun K hK=>?_
 go_simp;refine(HOf.out _).mono ?_;rintro en w2 ⟨rfl,hb2⟩;have yE:=hbx.drew.trans (hb2.mono (AB _));go_wp2_with fail
 refine hK.out _ _ (HS.out _ yE) (fun _=>?_);clear hK K;try go_frame
 iterate 2 (refine tkA ?_;go_frame)
 refine dnD ?_;go_wp2;go_ret;exact⟨rfl,HBw.out.trans (yE.mono HBw.out.size)⟩
theorem YP(x:Vl)(b n0:Nat)(W0:World)(hb:b<n0)(hB0:Blk W0 b 258 x.cells):B5 n0 W0 217 #[.pointer (some ⟨b,0,none⟩)] (fun v=>decide (GD v=x)):=by
 refine⟨enters_of func217 (by kernel_rfl) rfl,fun V hV u hu=>?_⟩;have hB:=hB0.below hV hb;obtain⟨W1,hW1⟩:=ZH (V.alloc (Obj.cells u.cells 46));obtain⟨z,hz⟩:=ZH V.heap.size;have hbw:ZN V W1:=by rw[hW1];exact(AC _ _).alloc (AB _) _
 have hB1:Blk W1 b 258 x.cells:=hB.below hbw hB.lt;have hZ1:Blk W1 z 46 u.cells:=by rw[hW1,hz];exact Blk.new V _ _
 have HS:Hid (∀W,ZN W1 W->AJ W z 0 22=some u.cells/\AJ W b 0 9=some x.cells):=fun W hW=>⟨(hZ1.below hW hZ1.lt).row 22 rfl,(hB1.below hW hB1.lt).row 9 rfl⟩
 obtain⟨y,hy⟩:=ZH (GD u);have HOf:Hid (∀W,Calls prog 213 #[u.val] W fun e w'=>e= .returned y.val/\ZN W w'):=fun W=>by rw[hy];exact LG u W
 rw[<-hy];obtain⟨k,hk⟩:=ZH (decide (y=x));have e9:∀W,(Op.equalIn 10000 258 (.agg y.cells) (.agg x.cells)).run prog W= .ok k W:=fun W=>by rw[hk];exact Xy y x W
 rw[<-hk];have HW1:=AA hW1;have HZ:=AA hz;have HBw:=AA hbw;have hbx:ZN W1 W1:=AC _ _;clear hB hB1 hZ1 hW1 hz hbw hB0 hy hk hV hb;show Calls prog 217 #[u.val,.pointer (some ⟨b,0,none⟩)] V _;go_enter func217,ntmps217;go_upto_region 1 with fail
 simp only[<-HW1.out,<-HZ.out];refine rgD (fun W=>AJ W z 0 22=some u.cells/\AJ W b 0 9=some x.cells) (HS.out _ hbx.drew) fun _=>?_
 refine tkD 4 0 ?_;go_frame;refine tkD 6 2 ?_;go_frame;refine rd1 1 fun K hK=>?_
 go_simp;refine(HOf.out _).mono ?_;rintro en w2 ⟨rfl,hb2⟩;have yE:=hbx.drew.trans (hb2.mono (AB _));go_wp2_with fail
 refine hK.out _ _ (HS.out _ yE) (fun _=>?_);clear hK K;try go_frame
 iterate 2 (refine tkA ?_;go_frame)
 refine dnD ?_;go_wp2;go_ret;exact⟨rfl,HBw.out.trans (yE.mono HBw.out.size)⟩
theorem YQ(n0:Nat)(W0:World):B5 n0 W0 215 #[] (fun _=>true):=by
 refine⟨enters_of func215 (by kernel_rfl) rfl,fun V hV u hu=>?_⟩;show Calls prog 215 #[u.val] V _;have hbw:ZN V (V.alloc (Obj.cells u.cells 46)):=(AC _ _).alloc (AB _) _;go_enter func215,ntmps215;go_wp2;go_ret;exact⟨rfl,hbw⟩
theorem YR(n0:Nat)(W0:World):B5 n0 W0 216 #[] (fun v=>decide (v.choice=2)):=by
 refine⟨enters_of func216 (by kernel_rfl) rfl,fun V hV u hu=>?_⟩;show Calls prog 216 #[u.val] V _;have hbw:ZN V (V.alloc (Obj.cells u.cells 46)):=(AC _ _).alloc (AB _) _;have x3:(V.alloc (Obj.cells u.cells 46)).cell? ⟨V.heap.size,3,none⟩=some (.int .i64 u.choice):=(Blk.new V 46 u.cells).cell 3;obtain⟨k,hk⟩:=ZH (decide (u.choice=2));have e3:(u.choice==2)=k:=by rw[hk];rfl
 rw[<-hk];clear hk;go_enter func216,ntmps216;go_wp2;go_ret;exact⟨rfl,hbw⟩
theorem Lj{w:World}{b:Nat}{M f:Int}{q s:Nat}{p:Nm}{A:Option Addr}{c mo:Nat}{O:List Vt}{ow:Int->Int->Bool}(h:Fh w b M (q:Int) (s:Int) f p A c mo O ow)(yt:q<=10)(hO:∀v∈O,Ab v)(hsm:O.length<=1000000)(r:Int):Calls prog 162 #[.pointer (some ⟨b,0,none⟩),.int .i64 r] w (DO (Dk q p s f O ow r) w):=by
 obtain⟨w1,hw1⟩:=ZH (w.alloc (.cells Ad 46));have hb1:ZN w w1:=by rw[hw1];exact(AC _ _).alloc (AB _) _
 obtain⟨g,hg⟩:=ZH w.heap.size;have hG1:Blk w1 g 46 Ad:=by rw[hw1,hg];exact Blk.new w _ _
 have hgw:w.heap.size<=g:=by omega
 have hV1:=h.below hb1;have HG:Hid (∀V,ZN w1 V->Blk V g 46 Ad):=fun V hV=>hG1.below hV hG1.lt
 have hBi:=AA (Dy hV1 3 r);have hBj:=AA (Dy hV1 4 r);have hBJ:=AA (Kd hV1 hsm 3 r);have hC9:Hid (∀(V:World) (pr:Vt->Bool) (g':Nat) (lb:Array Value),ZN w1 V->B5 V.heap.size V g' lb pr->Calls prog 211 #[.pointer (some ⟨b,0,none⟩),.int .i64 3,.int .i64 r,.func (.func g') #[] lb] V fun e w'=>
   e= .returned (.int .i64 ((Bx (pW 3 r pr) O:Nat):Int))/\ZN V w'):=fun V pr g' lb hV hF=>Qe (hV1.below hV) hO hsm 3 r pr g' lb hF
 have HEn:Hid (∀(V:World) (m:Nat),ZN w1 V->m<1024->Calls prog 214 #[.pointer (some ⟨b,0,none⟩),.int .i64 (m:Int)] V fun e w'=>e= .returned (.bool (decide ((q:Int)<=((Aw m 10:Nat):Int))))/\ZN V w'):=fun V m hV hm=>by
  have h:=Lf (hV1.below hV) (m:Int);rwa[EO m hm]at h
 have HLo:Hid (∀(m:Nat) (V:World),m<1024->Calls prog 209 #[.int .i64 (m:Int),.int .i64 (q:Int)] V fun e w'=>e= .returned (.int .i64 ((IN m q:Nat):Int))/\ZN V w'):=fun m V hm=>by
  have h:=Mj (m:Int) q yt V;rwa[EO m hm]at h
 have HVo:Hid (∀(V:World) (x:Vl) (sup:Int),ZN w1 V->Calls prog 206 #[.pointer (some ⟨b,0,none⟩),.int .i64 4,.int .i64 r,x.val,.int .i64 sup] V (fun e w'=>e= .returned (.tuple #[(Vt.mk 4 (s:Int) r x.choice f sup p x.name).val,.bool true])/\ZN V w')):=fun V x sup hV=>Gw (hV1.below hV) 4 r x sup
 have HQ:Hid (∀V,ZN w1 V->V.cell? ⟨b,1,none⟩=some (.int .i64 (q:Int))):=fun V hV=>(hV1.below hV).blk.cell 1
 have HVb:Hid (∀V,ZN w1 V->Fh V b M (q:Int) (s:Int) f p A c mo O ow):=fun V hV=>hV1.below hV
 have HLt:Hid (∀pr:Vt->Bool,Bx pr O<1024):=fun pr=>Gt (fun v hv=>(hO v hv).2.1)
 have HB1:=AA hb1;have HW1:=AA hw1;have HGg:=AA hg;have hgl:g<w1.heap.size:=hG1.lt;obtain⟨d,hd⟩:=ZH (ow 3 r);obtain⟨d',hd'⟩:=ZH (ow 4 r);rw[<-hd]at hBi;rw[<-hd']at hBj;have hbx:ZN w1 w1:=AC _ _;clear h hO hw1 hb1 hg hG1 hV1 yt;go_enter func162,ntmps162;go_upto_region 1 with fail
 simp only[<-HW1.out,<-HGg.out];go_wp2_with fail
 refine hBi.out.mono ?_;rintro en w2 ⟨rfl,hw2⟩;replace hw2:=hw2.symm;subst hw2;clear hBi;have HD0:=AA hd.symm;have zS:=AA hd'.symm;clear hd hd';cases d with
 |false=>
  go_wp2_with (refine AI rfl 46 (.tmp 4) (.tmp 19) rfl g Ad rfl rfl 46 Ad (HG.out _ hbx) rfl Au (fun u hu=>CR hu) ?_;intro w9 hR9 hg9 xu)
  refine bodyPost_ret (AW (g:=g) (cs:=Ad) rfl _ _ _ _ _ rfl hR9 underlying46 rfl Au) rfl ⟨none,rfl,.inl HD0.out,?_⟩;exact Below.grown (HB1.out) hg9 (Below.size (HB1.out)) (ZJ hgw)
 |true=>
  go_wp2_with fail
  refine hBj.out.mono ?_;rintro en w2 ⟨rfl,hw2⟩;replace hw2:=hw2.symm;subst hw2;clear hBj;cases d' with
  |true=>
   go_wp2_with (refine AI rfl 46 (.tmp 4) (.tmp 19) rfl g Ad rfl rfl 46 Ad (HG.out _ hbx) rfl Au (fun u hu=>CR hu) ?_;intro w9 hR9 hg9 xu)
   refine bodyPost_ret (AW (g:=g) (cs:=Ad) rfl _ _ _ _ _ rfl hR9 underlying46 rfl Au) rfl ⟨none,rfl,.inr (.inl zS.out),?_⟩;exact Below.grown (HB1.out) hg9 (Below.size (HB1.out)) (ZJ hgw)
  |false=>
   have HD:=HD0;have HD':=zS;go_wp2_with (go_at_call 210;refine hBJ.out.mono ?_;rintro en w3 ⟨v3,L,rfl,hL3,hLn,xD,hb3⟩;have xI:=hbx.trans hb3;obtain⟨A3,c3,rfl,hR3⟩:=Bj xD;have HR3:=AA hR3;have HL3:=AA hL3;obtain⟨nL,hnL⟩:=ZI L.length;rw[hnL]at hLn ⊢;have HNL:=AA hnL;clear xD hR3 hL3 hb3 hnL)
   have hDx:nL<=1000000:=by omega
   go_loopw [24] (fun iv wr=>∃i:Nat,iv= .int .i64 (i:Int)/\i<=nL/\ZN w3 wr/\∀x∈L.take i,Aw (Bx (pV 3 r x) O) 10<q) (fun iv _=>nL-(intOf iv).toNat)
   case atStart=>exact⟨0,rfl,Nat.zero_le _,AC _ _,fun k hk=>by simp at hk⟩
   case round=>
    obtain⟨i,rfl,hin,hbr,hno⟩:=hrel;have HNo:=AA hno;have yj:=xI.trans (hbr.mono xI.size);clear hno;by_cases hi:i<nL
    ·have di:=ZK (show i<nL by omega)
     obtain⟨x,hx⟩:∃x,L[i]? =some x:=⟨_,AD (by rw[HNL.out];exact hi)⟩;obtain⟨g0,o,rfl,hb,xH⟩:=HR3.out.cells (by intro e;have:=AY vlc 9 L (Fu L);rw[e,HNL.out]at this;simp at this;omega);clear xH;have x1:AJ wr g0 (o+i*9) 9=some x.cells:=(HR3.out.below hbr).vlRow hx;have HX:=AA hx;clear hx;go_upto_region 6 with fail
     obtain⟨w4,hw4⟩:=ZH (wr.alloc (.cells x.cells 258));rw[<-hw4];have hB4:Blk w4 wr.heap.size 258 x.cells:=by rw[hw4];exact Blk.new wr _ _
     have hb4:ZN w3 w4:=by rw[hw4];exact hbr.alloc hbr.size _
     obtain⟨z,hz⟩:=ZH wr.heap.size;rw[<-hz]at hB4 ⊢;have xw:=xI.trans (hb4.mono xI.size);have HZ4:Hid (∀V,ZN w4 V->AJ V z 0 9=some x.cells):=fun V hV=>(hB4.below hV hB4.lt).row 9 rfl
     have HZB:Hid (∀V,ZN w4 V->Blk V z 258 x.cells):=fun V hV=>hB4.below hV hB4.lt
     have hzg:z≠g:=by have:=yj.size;omega
     have hDA:Hid (B5 w4.heap.size w4 212 #[.pointer (some ⟨z,0,none⟩)] (fun v=>decide (GD v=x))):=YO x z w4.heap.size w4 hB4.lt hB4;have HWh:=AA (hC9.out w4 _ _ _ xw hDA.out);obtain⟨m,hm⟩:=ZH (Bx (pV 3 r x) O);have yo:m<1024:=by rw[hm];exact HLt.out _
     have hBk:Hid (Calls prog 211 #[.pointer (some ⟨b,0,none⟩),.int .i64 3,.int .i64 r,.func (.func 212) #[] #[.pointer (some ⟨z,0,none⟩)]] w4 fun e w'=>e= .returned (.int .i64 (m:Int))/\ZN w4 w'):=by unfold Hid;rw[hm];exact HWh.out
     have HM:=AA hm;have zT:Hid (∀V,ZN w1 V->Calls prog 214 #[.pointer (some ⟨b,0,none⟩),.int .i64 (m:Int)] V fun e w'=>e= .returned (.bool (decide ((q:Int)<=((Aw m 10:Nat):Int))))/\ZN V w'):=fun V hV=>HEn.out V m hV yo
     clear hw4 hB4 x1 HWh hDA hm;clear hz;by_cases he:q<=Aw m 10
     ·have de:decide ((q:Int)<=((Aw m 10:Nat):Int))=true:=by simp;omega
      rw[de]at zT;obtain⟨lw,hlw⟩:=ZH (IN m q);have hFE:Hid (∀V,Calls prog 209 #[.int .i64 (m:Int),.int .i64 (q:Int)] V fun e w'=>e= .returned (.int .i64 (lw:Int))/\ZN V w'):=fun V=>by rw[hlw];exact HLo.out m V yo
      obtain⟨v,hv⟩:∃v:Vt,v=Vt.mk 4 (s:Int) r x.choice f (lw:Int) p x.name:=⟨_,rfl⟩;have zo:Hid (∀V,ZN w1 V->Calls prog 206 #[.pointer (some ⟨b,0,none⟩),.int .i64 4,.int .i64 r,x.val,.int .i64 (lw:Int)] V (fun e w'=>e= .returned (.tuple #[v.val,.bool true])/\ZN V w')):=fun V hV=>by rw[hv];exact HVo.out V x lw hV
      have hCd:Hid (Dk q p s f O ow r (some v)):=⟨HD.out,HD'.out,.inl ⟨x,(HL3.out x).1 (AM HX.out),by rw[<-HM.out];exact he,by rw[hv,hlw,HM.out]⟩⟩;clear hlw hv he de;go_upto_region 8 with(first
       |(go_at_call 211;refine hBk.out.mono ?_;rintro en w5 ⟨rfl,hb5⟩;have yl:=hb4.trans (hb5.mono hb4.size);have xX:=xI.trans (yl.mono xI.size);have xn:=hb5)
       |(go_at_call 214;refine(zT.out _ xX).mono ?_;rintro en w6 ⟨rfl,hb6⟩;have yO:=xn.trans (hb6.mono xn.size);have yA:=xX.trans (hb6.mono xX.size)))
      have HS:Hid (∀V,ZN w4 V->AJ V z 0 9=some x.cells/\V.cell? ⟨b,1,none⟩=some (.int .i64 (q:Int))):=fun V hV=>⟨HZ4.out V hV,HQ.out V (xw.trans (hV.mono xw.size))⟩
      have HK9:Hid (∀V V',ZN w4 V->V.grownBy V' (some g)->AJ V' z 0 9=some x.cells/\V'.cell? ⟨b,1,none⟩=some (.int .i64 (q:Int))):=fun V V' hV hg=>by
       have hv:=HVb.out V (xw.trans (hV.mono xw.size));have hbg:b≠g:=by intro e;have h1:=hv.blk;have h2:=HG.out V (xw.trans (hV.mono xw.size));rw[e]at h1;exact absurd (CW h1 h2) (by decide)
       exact⟨((HZB.out V hV).kept hg (by intro e;injection e with e;exact hzg e)).row 9 rfl,(hv.blk.kept hg (by intro e;injection e with e;exact hbg e)).cell 1⟩
      refine rgD (fun V=>AJ V z 0 9=some x.cells/\V.cell? ⟨b,1,none⟩=some (.int .i64 (q:Int))) (HS.out _ yO.drew) fun _=>?_
      iterate 8 (refine tkA ?_;go_frame)
      refine rd1 8 fun K hK=>?_
      go_simp;refine(hFE.out _).mono ?_;rintro en w7 ⟨rfl,hb7⟩;have hAm:=yO.drew.trans (hb7.mono yO.size);go_wp2_with fail
      refine hK.out _ _ (HS.out _ hAm) (fun _=>?_);clear hK K;try go_frame
      refine rd1 9 fun K hK=>?_
      go_simp;refine(zo.out _ (xw.trans (hAm.mono xw.size))).mono ?_;rintro en w8 ⟨rfl,hb8⟩;have hBK:=hAm.trans (hb8.mono hAm.size);have yI:=xw.trans (hBK.mono xw.size);go_wp2_with fail
      refine hK.out _ _ (HS.out _ hBK) (fun _=>?_);clear hK K;try go_frame
      iterate 2 (refine tkA ?_;go_frame)
      refine rd1 12 fun K hK=>?_
      rw[if_pos (by rfl)];refine BN 46 (.tmp 4) (.tmp 45) (by rfl) g v.cells (by rfl) (by rfl) 46 Ad (HG.out _ yI) (by rfl) Au (fun u hu=>BO _ hu) (by rfl) ?_;intro w9 hR9 hg9 xu;refine hK.out _ _ (HK9.out _ _ hBK hg9) (fun _=>?_);clear hK K;try go_frame
      refine tkD 5 13 ?_;go_frame;refine dnD ?_;go_wp2_with fail
      have yu:=HB1.out.trans (yI.mono HB1.out.size);refine bodyPost_ret (AW (g:=g) (cs:=(v).cells) rfl _ _ _ _ _ rfl hR9 underlying46 rfl Au) rfl ⟨some (v),rfl,hCd.out,?_⟩;exact Below.grown (yu) hg9 (Below.size (yu)) (ZJ hgw)
     ·have de:decide ((q:Int)<=((Aw m 10:Nat):Int))=false:=by simp;omega
      rw[de]at zT;have HE:Hid (Aw (Bx (pV 3 r x) O) 10<q):=by unfold Hid;rw[<-HM.out];omega
      clear de he;go_wp2_with (first
       |(go_at_call 211;refine hBk.out.mono ?_;rintro en w5 ⟨rfl,hb5⟩;have yl:=hb4.trans (hb5.mono hb4.size);have xX:=xI.trans (yl.mono xI.size))
       |(go_at_call 214;refine(zT.out _ xX).mono ?_;rintro en w6 ⟨rfl,hb6⟩;have hBI:=yl.trans (hb6.mono yl.size)))
      go_roundw
      case rel=>
       refine⟨i+1,by go_num,by omega,hBI,fun k hk=>?_⟩;rw[Ai,HX.out,BX]at hk;rcases AP.1 hk with hk|hk
       ·exact HNo.out k hk
       ·rw[AU.1 hk];exact HE.out
      case measure=>simp[intOf];omega
    ·have di:=ZL (show nL<=i by omega)
     have yY:∀x,DF 3 r O x->Aw (Bx (pV 3 r x) O) 10<q:=by
      have h:=HNo.out;rw[AT (by rw[HNL.out];omega)]at h;exact fun x hx=>h x ((HL3.out x).2 hx)
     have yg:=AA yY;have HWh:=AA (hC9.out wr _ _ _ yj (YQ wr.heap.size wr));obtain⟨m,hm⟩:=ZH (Bx (pA 3 r) O);have yo:m<1024:=by rw[hm];exact HLt.out _
     have hBk:Hid (Calls prog 211 #[.pointer (some ⟨b,0,none⟩),.int .i64 3,.int .i64 r,.func (.func 215) #[] #[]] wr fun e w'=>e= .returned (.int .i64 (m:Int))/\ZN wr w'):=by unfold Hid;rw[hm];exact HWh.out
     have HM:=AA hm;have zT:Hid (∀V,ZN w1 V->Calls prog 214 #[.pointer (some ⟨b,0,none⟩),.int .i64 (m:Int)] V fun e w'=>e= .returned (.bool (decide ((q:Int)<=((Aw m 10:Nat):Int))))/\ZN V w'):=fun V hV=>HEn.out V m hV yo
     clear yY HWh hm;by_cases he:q<=Aw m 10
     ·have de:decide ((q:Int)<=((Aw m 10:Nat):Int))=true:=by simp;omega
      rw[de]at zT;obtain⟨lw,hlw⟩:=ZH (IN m q);have hFE:Hid (∀V,Calls prog 209 #[.int .i64 (m:Int),.int .i64 (q:Int)] V fun e w'=>e= .returned (.int .i64 (lw:Int))/\ZN V w'):=fun V=>by rw[hlw];exact HLo.out m V yo
      obtain⟨v,hv⟩:∃v:Vt,v=Vt.mk 4 (s:Int) r 2 f (lw:Int) p Nm.zero:=⟨_,rfl⟩;have zo:Hid (∀V,ZN w1 V->Calls prog 206 #[.pointer (some ⟨b,0,none⟩),.int .i64 4,.int .i64 r,(Vl.mk 2 Nm.zero).val,.int .i64 (lw:Int)] V (fun e w'=>e= .returned (.tuple #[v.val,.bool true])/\ZN V w')):=fun V hV=>by rw[hv];exact HVo.out V (Vl.mk 2 Nm.zero) lw hV
      have hCd:Hid (Dk q p s f O ow r (some v)):=⟨HD.out,HD'.out,.inr ⟨yg.out,by rw[<-HM.out];exact he,by rw[hv,hlw,HM.out]⟩⟩;have y1:∀V,ZN w1 V->V.cell? ⟨b,1,none⟩=some (.int .i64 (q:Int)):=HQ.out;have HY:=AA y1;clear hlw hv he de y1;go_wp2_with (first
       |(go_at_call 211;refine hBk.out.mono ?_;rintro en w5 ⟨rfl,hb5⟩;have xX:=yj.trans (hb5.mono yj.size))
       |(go_at_call 214;refine(zT.out _ xX).mono ?_;rintro en w6 ⟨rfl,hb6⟩;have yA:=xX.trans (hb6.mono xX.size);have y6:=HY.out _ yA)
       |(go_at_call 209;refine(hFE.out _).mono ?_;rintro en w7 ⟨rfl,hb7⟩;have xb:=yA.trans (hb7.mono yA.size))
       |(go_at_call 206;refine(zo.out _ xb).mono ?_;rintro en w8 ⟨rfl,hb8⟩;have yI:=xb.trans (hb8.mono xb.size))
       |(refine AI rfl 46 (.tmp 4) (.tmp 64) rfl g (v).cells rfl rfl 46 Ad (HG.out _ yI) rfl Au (fun u hu=>BO _ hu) ?_;intro w9 hR9 hg9 xu))
      have yu:=HB1.out.trans (yI.mono HB1.out.size);refine bodyPost_ret (AW (g:=g) (cs:=(v).cells) rfl _ _ _ _ _ rfl hR9 underlying46 rfl Au) rfl ⟨some (v),rfl,hCd.out,?_⟩;exact Below.grown (yu) hg9 (Below.size (yu)) (ZJ hgw)
     ·have de:decide ((q:Int)<=((Aw m 10:Nat):Int))=false:=by simp;omega
      rw[de]at zT;have HE:Hid (Aw (Bx (pA 3 r) O) 10<q):=by unfold Hid;rw[<-HM.out];omega
      clear de he;go_wp2_with (first
       |(go_at_call 211;refine hBk.out.mono ?_;rintro en w5 ⟨rfl,hb5⟩;have xX:=yj.trans (hb5.mono yj.size))
       |(go_at_call 214;refine(zT.out _ xX).mono ?_;rintro en w6 ⟨rfl,hb6⟩;have yA:=xX.trans (hb6.mono xX.size);have yw:=HB1.out.trans (yA.mono HB1.out.size))
       |(refine AI rfl 46 (.tmp 4) (.tmp 66) rfl g Ad rfl rfl 46 Ad (HG.out _ yA) rfl Au (fun u hu=>CR hu) ?_;intro w9 hR9 hg9 xu))
      refine bodyPost_ret (AW (g:=g) (cs:=Ad) rfl _ _ _ _ _ rfl hR9 underlying46 rfl Au) rfl ⟨none,rfl,.inr (.inr ⟨yg.out,HE.out⟩),?_⟩;exact yw.grown hg9 yw.size (ZJ hgw)
def TU:Option Vl->Array Value
 |none=>Cr
 |some v=>v.cells
theorem VW{u:Value}(h:u∈Cr.toList):u.oneCell'=true:=FI Vl.zero h
theorem Ns{w:World}{b:Nat}{M f q s:Int}{p:Nm}{A:Option Addr}{c mo:Nat}{O:List Vt}{ow:Int->Int->Bool}(h:Fh w b M q s f p A c mo O ow)(hsm:O.length<=1000000)(r:Nat)(hr:r<=12):Calls prog 218 #[.pointer (some ⟨b,0,none⟩),.int .i64 (r:Int)] w fun e w'=>∃o:Option Vl,e= .returned (.tuple #[.agg (TU o),.bool o.isSome])/\(∀x,o=some x->DF 3 r O x)/\ZN w w':=by
 obtain⟨w1,hw1⟩:=ZH (w.alloc (.cells Cr 258));have hb1:ZN w w1:=by rw[hw1];exact(AC _ _).alloc (AB _) _
 obtain⟨g,hg⟩:=ZH w.heap.size;have hG1:Blk w1 g 258 Cr:=by rw[hw1,hg];exact Blk.new w _ _
 have hgw:w.heap.size<=g:=by omega
 have HG:Hid (∀V,ZN w1 V->Blk V g 258 Cr):=fun V hV=>hG1.below hV hG1.lt
 have hBJ:=AA (Kd (h.below hb1) hsm 3 (r:Int));have hwr:IntKind.i64.wrap ((r:Int)+1)=(r:Int)+1:=by rw[IntKind.wrap_i64];omega
 have HB1:=AA hb1;have HW1:=AA hw1;have HGg:=AA hg;have hbx:ZN w1 w1:=AC _ _;clear h hw1 hb1 hg hG1;go_enter func218,ntmps218;go_upto_region 1 with fail
 simp only[<-HW1.out,<-HGg.out];go_upto_region 2 with(go_at_call 210;refine hBJ.out.mono ?_;rintro en w3 ⟨v3,L,rfl,hL3,hLn,xD,hb3⟩;have xI:=hbx.trans hb3;obtain⟨A3,c3,rfl,hR3⟩:=Bj xD;have HR3:=AA hR3;have HL3:=AA hL3;obtain⟨nL,hnL⟩:=ZI L.length;rw[hnL]at hLn ⊢;have HNL:=AA hnL;clear xD hR3 hL3 hb3 hnL)
 have hDx:nL<=1000000:=by omega
 have xj:=HB1.out.trans (xI.mono HB1.out.size);rcases Nat.eq_zero_or_pos nL with h0|h0
 ·subst h0;go_wp2_with (refine AI rfl 258 (.tmp 4) (.tmp 13) rfl g Cr rfl rfl 258 Cr (HG.out _ xI) rfl Ce (fun u hu=>VW hu) ?_;intro w9 hR9 hg9 xu)
  refine bodyPost_ret (AW (g:=g) (cs:=Cr) rfl _ _ _ _ _ rfl hR9 underlying258 rfl Ce) rfl ⟨none,rfl,fun x hx=>(by cases hx),?_⟩;exact xj.grown hg9 xj.size (ZJ hgw)
 ·have n0:((nL:Int)==0)=false:=by simp;omega
  have HX:Hid (∀k,k<nL->∃x,L[k]? =some x/\DF 3 r O x):=fun k hk=>⟨_,AD (by rw[HNL.out];exact hk),(HL3.out _).1 (List.getElem_mem _)⟩
  obtain⟨x,hx,hxv⟩:=HX.out 0 h0;obtain⟨g0,o,rfl,hb,xH⟩:=HR3.out.cells (by intro e;have:=AY vlc 9 L (Fu L);rw[e,HNL.out]at this;simp at this;omega);have x0:w3.cell? ⟨g0,o,none⟩=some (.int .i64 x.choice):=by
   have:=(Ds (HR3.out.vlRow hx)).2 0 (.int .i64 x.choice) rfl;rwa[Nat.zero_mul,Nat.add_zero]at this
  have x1:AJ w3 g0 o 9=some x.cells:=by have:=HR3.out.vlRow hx;rwa[Nat.zero_mul,Nat.add_zero]at this
  have hn0:(0:Int)<(nL:Int):=by omega
  have HXv:=AA hxv;clear xH hx hxv;obtain⟨d2,hd2⟩:=ZH ((x.choice==0));have e2:=hd2.symm;clear hd2;by_cases h2:1<nL
  ·have d3:=ZK (show 1<nL by omega)
   have hn1:(1:Int)<(nL:Int):=by omega
   obtain⟨y,hy,hyv⟩:=HX.out 1 h2;have y1:AJ w3 g0 (o+9) 9=some y.cells:=by have:=HR3.out.vlRow hy;rwa[Nat.one_mul]at this
   have HYv:=AA hyv;clear hy hyv;by_cases hp:((r:Int)+1)%2=1
   rotate_left
   ·have e1:(((r:Int)+1)%2==1)=false:=by simpa using hp
    go_wp2_with (refine AI rfl 258 (.tmp 4) (.tmp 35) rfl g x.cells rfl rfl 258 Cr (HG.out _ xI) rfl Ce (fun u hu=>FI _ hu) ?_;intro w9 hR9 hg9 xu)
    refine bodyPost_ret (AW (g:=g) (cs:=x.cells) rfl _ _ _ _ _ rfl hR9 underlying258 rfl Ce) rfl ⟨some x,rfl,fun x hx=>by injection hx with hx;subst hx;exact HXv.out,?_⟩;exact xj.grown hg9 xj.size (ZJ hgw)
   ·have e1:(((r:Int)+1)%2==1)=true:=by simpa using hp
    cases d2 with
    |false=>
     go_wp2_with (refine AI rfl 258 (.tmp 4) (.tmp 35) rfl g x.cells rfl rfl 258 Cr (HG.out _ xI) rfl Ce (fun u hu=>FI _ hu) ?_;intro w9 hR9 hg9 xu)
     refine bodyPost_ret (AW (g:=g) (cs:=x.cells) rfl _ _ _ _ _ rfl hR9 underlying258 rfl Ce) rfl ⟨some x,rfl,fun x hx=>by injection hx with hx;subst hx;exact HXv.out,?_⟩;exact xj.grown hg9 xj.size (ZJ hgw)
    |true=>
     go_wp2_with (refine AI rfl 258 (.tmp 4) (.tmp 32) rfl g y.cells rfl rfl 258 Cr (HG.out _ xI) rfl Ce (fun u hu=>FI _ hu) ?_;intro w9 hR9 hg9 xu)
     refine bodyPost_ret (AW (g:=g) (cs:=y.cells) rfl _ _ _ _ _ rfl hR9 underlying258 rfl Ce) rfl ⟨some y,rfl,fun x hx=>by injection hx with hx;subst hx;exact HYv.out,?_⟩;exact xj.grown hg9 xj.size (ZJ hgw)
  ·have d3:=ZL (show nL<=1 by omega)
   by_cases hp:((r:Int)+1)%2=1
   rotate_left
   ·have e1:(((r:Int)+1)%2==1)=false:=by simpa using hp
    go_wp2_with (refine AI rfl 258 (.tmp 4) (.tmp 35) rfl g x.cells rfl rfl 258 Cr (HG.out _ xI) rfl Ce (fun u hu=>FI _ hu) ?_;intro w9 hR9 hg9 xu)
    refine bodyPost_ret (AW (g:=g) (cs:=x.cells) rfl _ _ _ _ _ rfl hR9 underlying258 rfl Ce) rfl ⟨some x,rfl,fun x hx=>by injection hx with hx;subst hx;exact HXv.out,?_⟩;exact xj.grown hg9 xj.size (ZJ hgw)
   ·have e1:(((r:Int)+1)%2==1)=true:=by simpa using hp
    cases d2 with
    |false=>
     go_wp2_with (refine AI rfl 258 (.tmp 4) (.tmp 35) rfl g x.cells rfl rfl 258 Cr (HG.out _ xI) rfl Ce (fun u hu=>FI _ hu) ?_;intro w9 hR9 hg9 xu)
     refine bodyPost_ret (AW (g:=g) (cs:=x.cells) rfl _ _ _ _ _ rfl hR9 underlying258 rfl Ce) rfl ⟨some x,rfl,fun x hx=>by injection hx with hx;subst hx;exact HXv.out,?_⟩;exact xj.grown hg9 xj.size (ZJ hgw)
    |true=>
     go_wp2_with (refine AI rfl 258 (.tmp 4) (.tmp 35) rfl g x.cells rfl rfl 258 Cr (HG.out _ xI) rfl Ce (fun u hu=>FI _ hu) ?_;intro w9 hR9 hg9 xu)
     refine bodyPost_ret (AW (g:=g) (cs:=x.cells) rfl _ _ _ _ _ rfl hR9 underlying258 rfl Ce) rfl ⟨some x,rfl,fun x hx=>by injection hx with hx;subst hx;exact HXv.out,?_⟩;exact xj.grown hg9 xj.size (ZJ hgw)
theorem Qk{o:Oper}{a:Act}(x y:Operand)(m n:Nat)(ho:o.op= .binOp .or 22 x y 22)(hx:a.eval x= .int .i64 (m:Int))(hy:a.eval y= .int .i64 (n:Int))(hm:m<1024)(hn:n<1024)(w:World):(execOp a.eval o).run prog w= .ok (.value (.int .i64 ((m|||n:Nat):Int))) w:=by
 have h:=NB m n (by omega) (by omega);obtain⟨z2,hz2⟩:∃z:Int,z=((m|||n:Nat):Int):=⟨_,rfl⟩;rw[<-hz2]at h ⊢;unfold execOp;rw[ho];simp only[hx,hy];clear hz2;go_simp
theorem VX{o:Oper}{a:Act}(x y:Operand)(m n z:Int)(ho:o.op= .binOp .andNot 22 x y 22)(hx:a.eval x= .int .i64 m)(hy:a.eval y= .int .i64 n)(hz:z=bits .andNot .i64 m n)(w:World):(execOp a.eval o).run prog w= .ok (.value (.int .i64 z)) w:=by
 have h:=hz.symm;unfold execOp;rw[ho];simp only[hx,hy];clear hz;go_simp
theorem Nt{w:World}{b:Nat}{M f:Int}{q s:Nat}{p:Nm}{A:Option Addr}{c mo:Nat}{O:List Vt}{ow:Int->Int->Bool}(h:Fh w b M (q:Int) (s:Int) f p A c mo O ow)(hq1:1<=q)(yt:q<=10)(hO:∀v∈O,Ab v)(hsm:O.length<=1000000)(r:Nat)(hr:r<=12):Calls prog 163 #[.pointer (some ⟨b,0,none⟩),.int .i64 (r:Int)] w (DO (Ke p s f O ow (r:Int)) w):=by
 obtain⟨w1,hw1⟩:=ZH (w.alloc (.cells Ad 46));have hb1:ZN w w1:=by rw[hw1];exact(AC _ _).alloc (AB _) _
 obtain⟨g,hg⟩:=ZH w.heap.size;have hG1:Blk w1 g 46 Ad:=by rw[hw1,hg];exact Blk.new w _ _
 have hgw:w.heap.size<=g:=by omega
 have hV1:=h.below hb1;have HG:Hid (∀V,ZN w1 V->Blk V g 46 Ad):=fun V hV=>hG1.below hV hG1.lt
 have hwr:IntKind.i64.wrap ((r:Int)+1)=(r:Int)+1:=by rw[IntKind.wrap_i64];omega
 have hwq:IntKind.i64.wrap ((q:Int)-1)=((q-1:Nat):Int):=by rw[IntKind.wrap_i64];omega
 have hBi:=AA (Dy hV1 4 (r:Int));have hBj:=AA (Dy hV1 3 ((r:Int)+1));have hBJ:=AA (fun V (hV:ZN w1 V)=>Kd (hV1.below hV) hsm 4 (r:Int));have HCar:=AA (fun V (hV:ZN w1 V)=>Ns (hV1.below hV) hsm r hr);have hC9:Hid (∀(V:World) (pr:Vt->Bool) (g':Nat) (lb:Array Value),ZN w1 V->B5 V.heap.size V g' lb pr->Calls prog 211 #[.pointer (some ⟨b,0,none⟩),.int .i64 4,.int .i64 (r:Int),.func (.func g') #[] lb] V fun e w'=>
   e= .returned (.int .i64 ((Bx (pW 4 r pr) O:Nat):Int))/\ZN V w'):=fun V pr g' lb hV hF=>Qe (hV1.below hV) hO hsm 4 r pr g' lb hF
 have HEn:Hid (∀(V:World) (m:Nat),ZN w1 V->Calls prog 214 #[.pointer (some ⟨b,0,none⟩),.int .i64 (m:Int)] V fun e w'=>∃d,e= .returned (.bool d)/\ZN V w'):=fun V m hV=>(Lf (hV1.below hV) (m:Int)).mono fun e w' h=>⟨_,h⟩
 have HLo:Hid (∀(X:Int) (k:Nat) (V:World),k<=10->Calls prog 209 #[.int .i64 X,.int .i64 (k:Int)] V fun e w'=>∃lw:Nat,lw<1024/\e= .returned (.int .i64 (lw:Int))/\ZN V w'):=fun X k V hk=>(Mj X k hk V).mono fun e w' h=>⟨_,RQ _ _,h⟩
 have HVo:Hid (∀(V:World) (x:Vl) (sup:Int),ZN w1 V->Calls prog 206 #[.pointer (some ⟨b,0,none⟩),.int .i64 3,.int .i64 ((r:Int)+1),x.val,.int .i64 sup] V (fun e w'=>e= .returned (.tuple #[(Vt.mk 3 (s:Int) ((r:Int)+1) x.choice f sup p x.name).val,.bool true])/\ZN V w')):=fun V x sup hV=>Gw (hV1.below hV) 3 _ x sup
 have HQ:Hid (∀V,ZN w1 V->V.cell? ⟨b,1,none⟩=some (.int .i64 (q:Int))):=fun V hV=>(hV1.below hV).blk.cell 1
 have HVb:Hid (∀V,ZN w1 V->Fh V b M (q:Int) (s:Int) f p A c mo O ow):=fun V hV=>hV1.below hV
 have HLt:Hid (∀pr:Vt->Bool,Bx pr O<1024):=fun pr=>Gt (fun v hv=>(hO v hv).2.1)
 have HB1:=AA hb1;have HW1:=AA hw1;have HGg:=AA hg;have hgl:g<w1.heap.size:=hG1.lt;obtain⟨d,hd⟩:=ZH (ow 4 (r:Int));obtain⟨d',hd'⟩:=ZH (ow 3 ((r:Int)+1));rw[<-hd]at hBi;rw[<-hd']at hBj;have hbx:ZN w1 w1:=AC _ _;clear h hO hw1 hb1 hg hG1 hV1;go_enter func163,ntmps163;go_upto_region 1 with fail
 simp only[<-HW1.out,<-HGg.out];go_wp2_with fail
 refine hBi.out.mono ?_;rintro en w2 ⟨rfl,hw2⟩;replace hw2:=hw2.symm;subst hw2;clear hBi;have HD0:=AA hd.symm;have zS:=AA hd'.symm;clear hd hd';cases d with
 |false=>
  go_wp2_with (refine AI rfl 46 (.tmp 4) (.tmp 23) rfl g Ad rfl rfl 46 Ad (HG.out _ hbx) rfl Au (fun u hu=>CR hu) ?_;intro w9 hR9 hg9 xu)
  refine bodyPost_ret (AW (g:=g) (cs:=Ad) rfl _ _ _ _ _ rfl hR9 underlying46 rfl Au) rfl ⟨none,rfl,trivial,?_⟩;exact Below.grown (HB1.out) hg9 (Below.size (HB1.out)) (ZJ hgw)
 |true=>
  go_wp2_with fail
  refine hBj.out.mono ?_;rintro en w2 ⟨rfl,hw2⟩;replace hw2:=hw2.symm;subst hw2;clear hBj;cases d' with
  |true=>
   go_wp2_with (refine AI rfl 46 (.tmp 4) (.tmp 23) rfl g Ad rfl rfl 46 Ad (HG.out _ hbx) rfl Au (fun u hu=>CR hu) ?_;intro w9 hR9 hg9 xu)
   refine bodyPost_ret (AW (g:=g) (cs:=Ad) rfl _ _ _ _ _ rfl hR9 underlying46 rfl Au) rfl ⟨none,rfl,trivial,?_⟩;exact Below.grown (HB1.out) hg9 (Below.size (HB1.out)) (ZJ hgw)
  |false=>
   have HD:=HD0;have HD':=zS;have hCd:Hid (∀(x:Vl) (m:Nat) (v:Vt),(DF 4 (r:Int) O x∨DF 3 (r:Int) O x)->m<1024->v=Vt.mk 3 (s:Int) ((r:Int)+1) x.choice f (m:Int) p x.name->Ke p s f O ow (r:Int) (some v)):=fun x m v h1 h2 h3=>⟨HD.out,HD'.out,x,m,h1,h2,h3⟩
   have HWm:=AA (hC9.out w1 _ _ _ hbx (YR w1.heap.size w1));obtain⟨mx,hmx⟩:=ZH (Bx (pM 4 (r:Int)) O);have hEU:mx<1024:=by rw[hmx];exact HLt.out _
   have hHJ:Hid (Calls prog 211 #[.pointer (some ⟨b,0,none⟩),.int .i64 4,.int .i64 (r:Int),.func (.func 216) #[] #[]] w1 fun e w'=>e= .returned (.int .i64 (mx:Int))/\ZN w1 w'):=by unfold Hid;rw[hmx];exact HWm.out
   clear HWm hmx;go_wp2_with (first
    |(go_at_call 211;refine hHJ.out.mono ?_;rintro en wm ⟨rfl,hbm⟩;have hFG:=hbx.trans hbm;have hDB:=AA (hBJ.out _ hFG))
    |(go_at_call 210;refine hDB.out.mono ?_;rintro en w3 ⟨v3,L,rfl,hL3,hLn,xD,hb3⟩;have xI:=hFG.trans (hb3.mono hFG.size);obtain⟨A3,c3,rfl,hR3⟩:=Bj xD;have HR3:=AA hR3;have HL3:=AA hL3;obtain⟨nL,hnL⟩:=ZI L.length;rw[hnL]at hLn ⊢;have HNL:=AA hnL;clear xD hR3 hL3 hb3 hnL))
   have hDx:nL<=1000000:=by omega
   clear hHJ hDB
   go_loopw [31] (fun iv wr=>∃i:Nat,iv= .int .i64 (i:Int)/\i<=nL/\ZN w3 wr) (fun iv _=>nL-(intOf iv).toNat)
   case atStart=>exact⟨0,rfl,Nat.zero_le _,AC _ _⟩
   case round=>
    obtain⟨i,rfl,hin,hbr⟩:=hrel;have yj:=xI.trans (hbr.mono xI.size);by_cases hi:i<nL
    ·have di:=ZK (show i<nL by omega)
     obtain⟨x,hx⟩:∃x,L[i]? =some x:=⟨_,AD (by rw[HNL.out];exact hi)⟩;obtain⟨g0,o,rfl,hb,xH⟩:=HR3.out.cells (by intro e;have:=AY vlc 9 L (Fu L);rw[e,HNL.out]at this;simp at this;omega);clear xH;have x1:AJ wr g0 (o+i*9) 9=some x.cells:=(HR3.out.below hbr).vlRow hx;have HX:Hid (DF 4 (r:Int) O x):=(HL3.out x).1 (AM hx);clear hx;go_upto_region 7 with fail
     obtain⟨w4,hw4⟩:=ZH (wr.alloc (.cells x.cells 258));rw[<-hw4];have hB4:Blk w4 wr.heap.size 258 x.cells:=by rw[hw4];exact Blk.new wr _ _
     have hb4:ZN w3 w4:=by rw[hw4];exact hbr.alloc hbr.size _
     obtain⟨z,hz⟩:=ZH wr.heap.size;rw[<-hz]at hB4 ⊢;have xw:=xI.trans (hb4.mono xI.size);have HZB:Hid (∀V,ZN w4 V->Blk V z 258 x.cells):=fun V hV=>hB4.below hV hB4.lt
     have hzg:z≠g:=by have:=yj.size;omega
     have hDA:Hid (B5 w4.heap.size w4 217 #[.pointer (some ⟨z,0,none⟩)] (fun v=>decide (GD v=x))):=YP x z w4.heap.size w4 hB4.lt hB4;have HWh:=AA (hC9.out w4 _ _ _ xw hDA.out);obtain⟨m,hm⟩:=ZH (Bx (pV 4 (r:Int) x) O);have yo:m<1024:=by rw[hm];exact HLt.out _
     have hBk:Hid (Calls prog 211 #[.pointer (some ⟨b,0,none⟩),.int .i64 4,.int .i64 (r:Int),.func (.func 217) #[] #[.pointer (some ⟨z,0,none⟩)]] w4 fun e w'=>e= .returned (.int .i64 (m:Int))/\ZN w4 w'):=by unfold Hid;rw[hm];exact HWh.out
     obtain⟨mm,hmm⟩:=ZH (m|||mx);have hmm10:mm<1024:=by rw[hmm];exact Nat.or_lt_two_pow (n:=10) yo hEU
     have hor:bits .or .i64 (m:Int) (mx:Int)=(mm:Int):=by rw[hmm];exact NB m mx (by omega) (by omega)
     have HMm:=AA hmm;clear hw4 hB4 x1 HWh hDA hm hmm;clear hz;go_wp2_with (first
      |(go_at_call 211;refine hBk.out.mono ?_;rintro en w5 ⟨rfl,hb5⟩;have xn:=hb5;have xX:=xw.trans (hb5.mono xw.size);have zT:=AA (HEn.out w5 mm xX))
      |(go_at_call 214;refine zT.out.mono ?_;rintro en w6 ⟨d6,rfl,hb6⟩;have yO:=xn.trans (hb6.mono xn.size);have yA:=xw.trans (yO.mono xw.size);cases d6)
      |fail)
     ·have hBI:=hb4.trans (yO.mono hb4.size);go_wp2;go_roundw
      case rel=>exact⟨i+1,by go_num,by omega,hBI⟩
      case measure=>simp[intOf];omega
     ·have HLo1:Hid (∀V,Calls prog 209 #[.int .i64 (m:Int),.int .i64 1] V fun e w'=>∃lw:Nat,lw<1024/\e= .returned (.int .i64 (lw:Int))/\ZN V w'):=fun V=>HLo.out (m:Int) 1 V (by omega)
      go_upto_region 10 with(go_at_call 209;refine(HLo1.out _).mono ?_;rintro en w7 ⟨on,hon,rfl,hb7⟩;have hAm:=yO.trans (hb7.mono yO.size);have xb:=xw.trans (hAm.mono xw.size))
      obtain⟨X,hX⟩:=ZH (bits .andNot .i64 (mm:Int) (on:Int));have HXe:=AA hX;have hFH:Hid (∀V,Calls prog 209 #[.int .i64 X,.int .i64 ((q-1:Nat):Int)] V fun e w'=>∃lw:Nat,lw<1024/\e= .returned (.int .i64 (lw:Int))/\ZN V w'):=fun V=>HLo.out X (q-1) V (by omega)
      have zo:Hid (∀(V:World) (lw:Nat),ZN w1 V->Calls prog 206 #[.pointer (some ⟨b,0,none⟩),.int .i64 3,.int .i64 ((r:Int)+1),x.val,.int .i64 (lw:Int)] V (fun e w'=>∃v:Vt,v=Vt.mk 3 (s:Int) ((r:Int)+1) x.choice f (lw:Int) p x.name/\e= .returned (.tuple #[v.val,.bool true])/\ZN V w')):=fun V lw hV=>(HVo.out V x lw hV).mono fun e w' h=>⟨_,rfl,h⟩
      have HS:Hid (∀V,ZN w4 V->AJ V z 0 9=some x.cells/\V.cell? ⟨b,1,none⟩=some (.int .i64 (q:Int))):=fun V hV=>⟨(HZB.out V hV).row 9 rfl,HQ.out V (xw.trans (hV.mono xw.size))⟩
      have HK9:Hid (∀V V',ZN w4 V->V.grownBy V' (some g)->AJ V' z 0 9=some x.cells/\V'.cell? ⟨b,1,none⟩=some (.int .i64 (q:Int))):=fun V V' hV hg=>by
       have hv:=HVb.out V (xw.trans (hV.mono xw.size));have hbg:b≠g:=by intro e;have h1:=hv.blk;have h2:=HG.out V (xw.trans (hV.mono xw.size));rw[e]at h1;exact absurd (CW h1 h2) (by decide)
       exact⟨((HZB.out V hV).kept hg (by intro e;injection e with e;exact hzg e)).row 9 rfl,(hv.blk.kept hg (by intro e;injection e with e;exact hbg e)).cell 1⟩
      clear hX;refine rgD (fun V=>AJ V z 0 9=some x.cells/\V.cell? ⟨b,1,none⟩=some (.int .i64 (q:Int))) (HS.out _ hAm.drew) fun _=>?_
      iterate 7 (refine tkA ?_;go_frame)
      refine BA (some 53) (i:=7) (v:=.int .i64 (mm:Int)) rfl rfl (by kernel_rfl) (by kernel_rfl) (by kernel_rfl) (fun _ _ _ h=>h) (by rfl) (fun wq _=>by rw[HMm.out];exact Qk (.tmp 51) (.tmp 52) m mx rfl rfl rfl yo hEU wq) (by assumption) ?_;go_frame;refine tkD 54 8 ?_;go_frame;refine tkV 55 9 (.int .i64 X) (fun wq _=>VX (.tmp 53) (.tmp 54) (mm:Int) (on:Int) X rfl rfl rfl HXe.out wq) ?_;go_frame
      iterate 5 (refine tkA ?_;go_frame)
      refine rd1 15 fun K hK=>?_
      go_simp;refine(hFH.out _).mono ?_;rintro en w8 ⟨l8,hl8,rfl,hb8⟩;have hBK:=hAm.drew.trans (hb8.mono hAm.size);go_wp2_with fail
      refine hK.out _ _ (HS.out _ hBK) (fun _=>?_);clear hK K;try go_frame
      refine tkV 62 16 (.int .i64 ((on|||l8:Nat):Int)) (fun wq _=>Qk (.tmp 50) (.tmp 61) on l8 rfl rfl rfl hon hl8 wq) ?_;go_frame;refine rd1 17 fun K hK=>?_
      go_simp;refine(zo.out _ _ (xw.trans (hBK.mono xw.size))).mono ?_;rintro en w10 ⟨v,hv,rfl,hBl⟩;have hDC:=hBK.trans (hBl.mono hBK.size);have hEV:=xw.trans (hDC.mono xw.size);have HVe:=AA hv;clear hv;go_wp2_with fail
      refine hK.out _ _ (HS.out _ hDC) (fun _=>?_);clear hK K;try go_frame
      iterate 2 (refine tkA ?_;go_frame)
      refine rd1 20 fun K hK=>?_
      rw[if_pos (by rfl)];refine BN 46 (.tmp 4) (.tmp 64) (by rfl) g v.cells (by rfl) (by rfl) 46 Ad (HG.out _ hEV) (by rfl) Au (fun u hu=>BO _ hu) (by rfl) ?_;intro w9 hR9 hg9 xu;refine hK.out _ _ (HK9.out _ _ hDC hg9) (fun _=>?_);clear hK K;try go_frame
      refine tkD 5 21 ?_;go_frame;refine dnD ?_;go_wp2_with fail
      have yu:=HB1.out.trans (hEV.mono HB1.out.size);refine bodyPost_ret (AW (g:=g) (cs:=(v).cells) rfl _ _ _ _ _ rfl hR9 underlying46 rfl Au) rfl ⟨some (v),rfl,hCd.out x _ v (.inl HX.out) (Nat.or_lt_two_pow (n:=10) hon hl8) HVe.out,?_⟩;exact Below.grown (yu) hg9 (Below.size (yu)) (ZJ hgw)
    ·have di:=ZL (show nL<=i by omega)
     have zT:=AA (HEn.out wr mx yj);go_wp2_with fail
     refine zT.out.mono ?_;rintro en w6 ⟨d6,rfl,hb6⟩;have yA:=yj.trans (hb6.mono yj.size);have yw:=HB1.out.trans (yA.mono HB1.out.size);cases d6
     ·skip
      go_wp2_with (refine AI rfl 46 (.tmp 4) (.tmp 71) rfl g Ad rfl rfl 46 Ad (HG.out _ yA) rfl Au (fun u hu=>CR hu) ?_;intro w9 hR9 hg9 xu)
      refine bodyPost_ret (AW (g:=g) (cs:=Ad) rfl _ _ _ _ _ rfl hR9 underlying46 rfl Au) rfl ⟨none,rfl,trivial,?_⟩;exact Below.grown (yw) hg9 (Below.size (yw)) (ZJ hgw)
     ·have hHK:=AA (HCar.out _ yA);go_wp2_with fail
      refine hHK.out.mono ?_;rintro en w7 ⟨ox,rfl,hox,hb7⟩;have xb:=yA.trans (hb7.mono yA.size);have za:=HB1.out.trans (xb.mono HB1.out.size);cases ox with
      |none=>
       clear hox;simp only[TU,Option.isSome_none];obtain⟨w8,hw8⟩:=ZH (w7.alloc (.cells Cr 258));have yI:ZN w1 w8:=by rw[hw8];exact xb.alloc xb.size _
       have yu:=HB1.out.trans (yI.mono HB1.out.size);go_upto_region 15 with fail
       try rw[<-hw8]
       clear hw8;go_wp2_with (refine AI rfl 46 (.tmp 4) (.tmp 80) rfl g Ad rfl rfl 46 Ad (HG.out _ yI) rfl Au (fun u hu=>CR hu) ?_;intro w9 hR9 hg9 xu)
       refine bodyPost_ret (AW (g:=g) (cs:=Ad) rfl _ _ _ _ _ rfl hR9 underlying46 rfl Au) rfl ⟨none,rfl,trivial,?_⟩;exact Below.grown (yu) hg9 (Below.size (yu)) (ZJ hgw)
      |some x=>
       have HX:Hid (DF 3 (r:Int) O x):=hox x rfl;clear hox;simp only[TU,Option.isSome_some];obtain⟨w8,hw8⟩:=ZH (w7.alloc (.cells x.cells 258));have yI:ZN w1 w8:=by rw[hw8];exact xb.alloc xb.size _
       have hB8:Blk w8 w7.heap.size 258 x.cells:=by rw[hw8];exact Blk.new w7 _ _
       go_upto_region 15 with fail
       rw[<-hw8];obtain⟨z,hz⟩:=ZH w7.heap.size;rw[<-hz]at hB8 ⊢;have hzg:z≠g:=by have:=xb.size;omega
       have HZB:Hid (∀V,ZN w8 V->Blk V z 258 x.cells):=fun V hV=>hB8.below hV hB8.lt
       have hFI:ZN w8 w8:=AC _ _;have hFH:Hid (∀V,Calls prog 209 #[.int .i64 (mx:Int),.int .i64 (q:Int)] V fun e w'=>∃lw:Nat,lw<1024/\e= .returned (.int .i64 (lw:Int))/\ZN V w'):=fun V=>HLo.out mx q V yt
       have zo:Hid (∀(V:World) (lw:Nat),ZN w1 V->Calls prog 206 #[.pointer (some ⟨b,0,none⟩),.int .i64 3,.int .i64 ((r:Int)+1),x.val,.int .i64 (lw:Int)] V (fun e w'=>∃v:Vt,v=Vt.mk 3 (s:Int) ((r:Int)+1) x.choice f (lw:Int) p x.name/\e= .returned (.tuple #[v.val,.bool true])/\ZN V w')):=fun V lw hV=>(HVo.out V x lw hV).mono fun e w' h=>⟨_,rfl,h⟩
       have HS:Hid (∀V,ZN w8 V->AJ V z 0 9=some x.cells/\V.cell? ⟨b,1,none⟩=some (.int .i64 (q:Int))):=fun V hV=>⟨(HZB.out V hV).row 9 rfl,HQ.out V (yI.trans (hV.mono yI.size))⟩
       have HK9:Hid (∀V V',ZN w8 V->V.grownBy V' (some g)->AJ V' z 0 9=some x.cells/\V'.cell? ⟨b,1,none⟩=some (.int .i64 (q:Int))):=fun V V' hV hg=>by
        have hv:=HVb.out V (yI.trans (hV.mono yI.size));have hbg:b≠g:=by intro e;have h1:=hv.blk;have h2:=HG.out V (yI.trans (hV.mono yI.size));rw[e]at h1;exact absurd (CW h1 h2) (by decide)
        exact⟨((HZB.out V hV).kept hg (by intro e;injection e with e;exact hzg e)).row 9 rfl,(hv.blk.kept hg (by intro e;injection e with e;exact hbg e)).cell 1⟩
       clear hw8 hz hB8;go_upto_region 17 with fail
       refine rgD (fun V=>AJ V z 0 9=some x.cells/\V.cell? ⟨b,1,none⟩=some (.int .i64 (q:Int))) (HS.out _ hFI.drew) fun _=>?_
       iterate 9 (refine tkA ?_;go_frame)
       refine rd1 9 fun K hK=>?_
       go_simp;refine(hFH.out _).mono ?_;rintro en w10 ⟨l8,hl8,rfl,hBl⟩;have hCP:=hFI.drew.trans (hBl.mono hFI.size);go_wp2_with fail
       refine hK.out _ _ (HS.out _ hCP) (fun _=>?_);clear hK K;try go_frame
       refine rd1 10 fun K hK=>?_
       go_simp;refine(zo.out _ _ (yI.trans (hCP.mono yI.size))).mono ?_;rintro en w11 ⟨v,hv,rfl,yh⟩;have hDD:=hCP.trans (yh.mono hCP.size);have hEW:=yI.trans (hDD.mono yI.size);have HVe:=AA hv;clear hv;go_wp2_with fail
       refine hK.out _ _ (HS.out _ hDD) (fun _=>?_);clear hK K;try go_frame
       iterate 2 (refine tkA ?_;go_frame)
       refine rd1 13 fun K hK=>?_
       rw[if_pos (by rfl)];refine BN 46 (.tmp 4) (.tmp 92) (by rfl) g v.cells (by rfl) (by rfl) 46 Ad (HG.out _ hEW) (by rfl) Au (fun u hu=>BO _ hu) (by rfl) ?_;intro w9 hR9 hg9 xu;refine hK.out _ _ (HK9.out _ _ hDD hg9) (fun _=>?_);clear hK K;try go_frame
       refine tkD 5 14 ?_;go_frame;refine dnD ?_;go_wp2_with fail
       have hBL:=HB1.out.trans (hEW.mono HB1.out.size);refine bodyPost_ret (AW (g:=g) (cs:=(v).cells) rfl _ _ _ _ _ rfl hR9 underlying46 rfl Au) rfl ⟨some (v),rfl,hCd.out x _ v (.inr HX.out) hl8 HVe.out,?_⟩;exact Below.grown (hBL) hg9 (Below.size (hBL)) (ZJ hgw)
end
end Go.Proofs.YtadllffeoibelaaGreat
