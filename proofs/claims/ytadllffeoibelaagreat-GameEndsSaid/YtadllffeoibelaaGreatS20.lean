/-
  Parts of the proof. No condition.
-/
import Derived.Test.YtadllffeoibelaaGreatS19
open Go.Proofs.Tryz
namespace Go.Proofs.YtadllffeoibelaaGreat
set_option maxRecDepth 100000
set_option maxHeartbeats 32000000
set_option linter.all false
section
open Go.RowKit Go.Shelf
attribute [local go_sem ↓] Go.wp_at_zero Go.wp_at_succ Aq Au Av Aw Dl
attribute [local go_sem] BE BL BM BN FE AR AX AU
theorem Kc{w:World}{b:Nat}{M f:Int}{q s:Nat}{p:Nm}{A:Option Addr}{c mo:Nat}{O:List Vt}{ow:Int->Int->Bool}(h:FL w b M (q:Int) (s:Int) f p A c mo O ow)(yg:q<=10)(hO:∀v∈O,AW v)(hsm:O.length<=1000000)(r:Int):Calls prog 162 #[.pointer (some ⟨b,0,none⟩),.int .i64 r] w (DA (Db q p s f O ow r) w):=by
 obtain⟨w1,hw1⟩:=Wr (w.alloc (.cells Ai 46));have hb1:Wx w w1:=by rw[hw1];exact(AC _ _).alloc (AB _) _
 obtain⟨g,hg⟩:=Wr w.heap.size;have hG1:Blk w1 g 46 Ai:=by rw[hw1,hg];exact Blk.new w _ _
 have hgw:w.heap.size<=g:=by omega
 have hV1:=h.below hb1;have HG:Hid (∀V,Wx w1 V->Blk V g 46 Ai):=fun V hV=>hG1.below hV hG1.lt
 have hBS:=AA (Do hV1 3 r);have hBT:=AA (Do hV1 4 r);have hAz:=AA (Ji hV1 hsm 3 r);have hCk:Hid (∀(V:World) (pr:Vt->Bool) (g':Nat) (lb:Array Value),Wx w1 V->B5 V.heap.size V g' lb pr->Calls prog 211 #[.pointer (some ⟨b,0,none⟩),.int .i64 3,.int .i64 r,.func (.func g') #[] lb] V fun e w'=>
   e= .returned (.int .i64 ((BX (pW 3 r pr) O:Nat):Int))/\Wx V w'):=fun V pr g' lb hV hF=>Ok (hV1.below hV) hO hsm 3 r pr g' lb hF
 have HEn:Hid (∀(V:World) (m:Nat),Wx w1 V->m<1024->Calls prog 214 #[.pointer (some ⟨b,0,none⟩),.int .i64 (m:Int)] V fun e w'=>e= .returned (.bool (decide ((q:Int)<=((Ae m 10:Nat):Int))))/\Wx V w'):=fun V m hV hm=>by
  have h:=KY (hV1.below hV) (m:Int);rwa[DU m hm]at h
 have HLo:Hid (∀(m:Nat) (V:World),m<1024->Calls prog 209 #[.int .i64 (m:Int),.int .i64 (q:Int)] V fun e w'=>e= .returned (.int .i64 ((CR m q:Nat):Int))/\Wx V w'):=fun m V hm=>by
  have h:=Le (m:Int) q yg V;rwa[DU m hm]at h
 have HVo:Hid (∀(V:World) (x:Vl) (sup:Int),Wx w1 V->Calls prog 206 #[.pointer (some ⟨b,0,none⟩),.int .i64 4,.int .i64 r,x.val,.int .i64 sup] V (fun e w'=>e= .returned (.tuple #[(Vt.mk 4 (s:Int) r x.choice f sup p x.name).val,.bool true])/\Wx V w')):=fun V x sup hV=>Ga (hV1.below hV) 4 r x sup
 have HQ:Hid (∀V,Wx w1 V->V.cell? ⟨b,1,none⟩=some (.int .i64 (q:Int))):=fun V hV=>(hV1.below hV).blk.cell 1
 have HVb:Hid (∀V,Wx w1 V->FL V b M (q:Int) (s:Int) f p A c mo O ow):=fun V hV=>hV1.below hV
 have HLt:Hid (∀pr:Vt->Bool,BX pr O<1024):=fun pr=>Fa (fun v hv=>(hO v hv).2.1)
 have HB1:=AA hb1;have HW1:=AA hw1;have HGg:=AA hg;have hgl:g<w1.heap.size:=hG1.lt;obtain⟨d,hd⟩:=Wr (ow 3 r);obtain⟨d',hd'⟩:=Wr (ow 4 r);rw[<-hd]at hBS;rw[<-hd']at hBT;have hbx:Wx w1 w1:=AC _ _;clear h hO hw1 hb1 hg hG1 hV1 yg;go_enter func162,ntmps162;go_upto_region 1 with fail
 simp only[<-HW1.out,<-HGg.out];go_wp2_with fail
 refine hBS.out.mono ?_;rintro en w2 ⟨rfl,hw2⟩;replace hw2:=hw2.symm;subst hw2;clear hBS;have HD0:=AA hd.symm;have yz:=AA hd'.symm;clear hd hd';cases d with
 |false=>
  go_wp2_with (refine AJ rfl 46 (.tmp 4) (.tmp 19) rfl g Ai rfl rfl 46 Ai (HG.out _ hbx) rfl Ao (fun u hu=>CL hu) ?_;intro w9 hR9 hg9 xg)
  refine bodyPost_ret (Ac (g:=g) (cs:=Ai) rfl _ _ _ _ _ rfl hR9 underlying46 rfl Ao) rfl ⟨none,rfl,.inl HD0.out,?_⟩;exact Below.grown (HB1.out) hg9 (Below.size (HB1.out)) (Wt hgw)
 |true=>
  go_wp2_with fail
  refine hBT.out.mono ?_;rintro en w2 ⟨rfl,hw2⟩;replace hw2:=hw2.symm;subst hw2;clear hBT;cases d' with
  |true=>
   go_wp2_with (refine AJ rfl 46 (.tmp 4) (.tmp 19) rfl g Ai rfl rfl 46 Ai (HG.out _ hbx) rfl Ao (fun u hu=>CL hu) ?_;intro w9 hR9 hg9 xg)
   refine bodyPost_ret (Ac (g:=g) (cs:=Ai) rfl _ _ _ _ _ rfl hR9 underlying46 rfl Ao) rfl ⟨none,rfl,.inr (.inl yz.out),?_⟩;exact Below.grown (HB1.out) hg9 (Below.size (HB1.out)) (Wt hgw)
  |false=>
   have HD:=HD0;have HD':=yz;go_wp2_with (go_at_call 210;refine hAz.out.mono ?_;rintro en w3 ⟨v3,L,rfl,hL3,hLn,hS3,xC,hb3⟩;have xD:=hbx.trans hb3;obtain⟨A3,c3,rfl,hR3⟩:=Bg xC;have HR3:=AA hR3;have HL3:=AA hL3;obtain⟨nL,hnL⟩:=Ws L.length;rw[hnL]at hLn ⊢;have HNL:=AA hnL;clear hS3 xC hR3 hL3 hb3 hnL)
   have hDY:nL<=1000000:=by omega
   go_loopw [24] (fun iv wr=>∃i:Nat,iv= .int .i64 (i:Int)/\i<=nL/\Wx w3 wr/\∀x∈L.take i,Ae (BX (pV 3 r x) O) 10<q) (fun iv _=>nL-(intOf iv).toNat)
   case atStart=>exact⟨0,rfl,Nat.zero_le _,AC _ _,fun k hk=>by simp at hk⟩
   case round=>
    obtain⟨i,rfl,hin,hbr,hno⟩:=hrel;have HNo:=AA hno;have yb:=xD.trans (hbr.mono xD.size);clear hno;by_cases hi:i<nL
    ·have di:=Wu (show i<nL by omega)
     obtain⟨x,hx⟩:∃x,L[i]? =some x:=⟨_,AE (by rw[HNL.out];exact hi)⟩;obtain⟨g0,o,rfl,hb,xH⟩:=HR3.out.cells (by intro e;have:=AY vlc 9 L (FV L);rw[e,HNL.out]at this;simp at this;omega);clear xH;have x1:AK wr g0 (o+i*9) 9=some x.cells:=(HR3.out.below hbr).vlRow hx;have HX:=AA hx;clear hx;go_upto_region 6 with fail
     obtain⟨w4,hw4⟩:=Wr (wr.alloc (.cells x.cells 258));rw[<-hw4];have hB4:Blk w4 wr.heap.size 258 x.cells:=by rw[hw4];exact Blk.new wr _ _
     have hb4:Wx w3 w4:=by rw[hw4];exact hbr.alloc hbr.size _
     obtain⟨z,hz⟩:=Wr wr.heap.size;rw[<-hz]at hB4 ⊢;have xl:=xD.trans (hb4.mono xD.size);have HZ4:Hid (∀V,Wx w4 V->AK V z 0 9=some x.cells):=fun V hV=>(hB4.below hV hB4.lt).row 9 rfl
     have HZB:Hid (∀V,Wx w4 V->Blk V z 258 x.cells):=fun V hV=>hB4.below hV hB4.lt
     have hzg:z≠g:=by have:=yb.size;omega
     have hCl:Hid (B5 w4.heap.size w4 212 #[.pointer (some ⟨z,0,none⟩)] (fun v=>decide (Bh v=x))):=V4 x z w4.heap.size w4 hB4.lt hB4;have HWh:=AA (hCk.out w4 _ _ _ xl hCl.out);obtain⟨m,hm⟩:=Wr (BX (pV 3 r x) O);have zG:m<1024:=by rw[hm];exact HLt.out _
     have hBU:Hid (Calls prog 211 #[.pointer (some ⟨b,0,none⟩),.int .i64 3,.int .i64 r,.func (.func 212) #[] #[.pointer (some ⟨z,0,none⟩)]] w4 fun e w'=>e= .returned (.int .i64 (m:Int))/\Wx w4 w'):=by unfold Hid;rw[hm];exact HWh.out
     have HM:=AA hm;have zH:Hid (∀V,Wx w1 V->Calls prog 214 #[.pointer (some ⟨b,0,none⟩),.int .i64 (m:Int)] V fun e w'=>e= .returned (.bool (decide ((q:Int)<=((Ae m 10:Nat):Int))))/\Wx V w'):=fun V hV=>HEn.out V m hV zG
     clear hw4 hB4 x1 HWh hCl hm;clear hz;by_cases he:q<=Ae m 10
     ·have de:decide ((q:Int)<=((Ae m 10:Nat):Int))=true:=by simp;omega
      rw[de]at zH;obtain⟨lw,hlw⟩:=Wr (CR m q);have hEc:Hid (∀V,Calls prog 209 #[.int .i64 (m:Int),.int .i64 (q:Int)] V fun e w'=>e= .returned (.int .i64 (lw:Int))/\Wx V w'):=fun V=>by rw[hlw];exact HLo.out m V zG
      obtain⟨v,hv⟩:∃v:Vt,v=Vt.mk 4 (s:Int) r x.choice f (lw:Int) p x.name:=⟨_,rfl⟩;have zg:Hid (∀V,Wx w1 V->Calls prog 206 #[.pointer (some ⟨b,0,none⟩),.int .i64 4,.int .i64 r,x.val,.int .i64 (lw:Int)] V (fun e w'=>e= .returned (.tuple #[v.val,.bool true])/\Wx V w')):=fun V hV=>by rw[hv];exact HVo.out V x lw hV
      have hEd:Hid (Db q p s f O ow r (some v)):=⟨HD.out,HD'.out,.inl ⟨x,(HL3.out x).1 (AN HX.out),by rw[<-HM.out];exact he,by rw[hv,hlw,HM.out]⟩⟩;clear hlw hv he de;go_upto_region 8 with(first
       |(go_at_call 211;refine hBU.out.mono ?_;rintro en w5 ⟨rfl,hb5⟩;have ye:=hb4.trans (hb5.mono hb4.size);have xa:=xD.trans (ye.mono xD.size);have xf:=hb5)
       |(go_at_call 214;refine(zH.out _ xa).mono ?_;rintro en w6 ⟨rfl,hb6⟩;have yB:=xf.trans (hb6.mono xf.size);have xx:=xa.trans (hb6.mono xa.size)))
      have HS:Hid (∀V,Wx w4 V->AK V z 0 9=some x.cells/\V.cell? ⟨b,1,none⟩=some (.int .i64 (q:Int))):=fun V hV=>⟨HZ4.out V hV,HQ.out V (xl.trans (hV.mono xl.size))⟩
      have HK9:Hid (∀V V',Wx w4 V->V.grownBy V' (some g)->AK V' z 0 9=some x.cells/\V'.cell? ⟨b,1,none⟩=some (.int .i64 (q:Int))):=fun V V' hV hg=>by
       have hv:=HVb.out V (xl.trans (hV.mono xl.size));have hbg:b≠g:=by intro e;have h1:=hv.blk;have h2:=HG.out V (xl.trans (hV.mono xl.size));rw[e]at h1;exact absurd (Cw h1 h2) (by decide)
       exact⟨((HZB.out V hV).kept hg (by intro e;injection e with e;exact hzg e)).row 9 rfl,(hv.blk.kept hg (by intro e;injection e with e;exact hbg e)).cell 1⟩
      refine rgD (fun V=>AK V z 0 9=some x.cells/\V.cell? ⟨b,1,none⟩=some (.int .i64 (q:Int))) (HS.out _ yB.drew) fun _=>?_
      iterate 8 (refine tkA ?_;go_frame)
      refine rd1 8 fun K hK=>?_
      go_simp;refine(hEc.out _).mono ?_;rintro en w7 ⟨rfl,hb7⟩;have hAb:=yB.drew.trans (hb7.mono yB.size);go_wp2_with fail
      refine hK.out _ _ (HS.out _ hAb) (fun _=>?_);clear hK K;try go_frame
      refine rd1 9 fun K hK=>?_
      go_simp;refine(zg.out _ (xl.trans (hAb.mono xl.size))).mono ?_;rintro en w8 ⟨rfl,hb8⟩;have zq:=hAb.trans (hb8.mono hAb.size);have xw:=xl.trans (zq.mono xl.size);go_wp2_with fail
      refine hK.out _ _ (HS.out _ zq) (fun _=>?_);clear hK K;try go_frame
      iterate 2 (refine tkA ?_;go_frame)
      refine rd1 12 fun K hK=>?_
      rw[if_pos (by rfl)];refine BU 46 (.tmp 4) (.tmp 45) (by rfl) g v.cells (by rfl) (by rfl) 46 Ai (HG.out _ xw) (by rfl) Ao (fun u hu=>BH _ hu) (by rfl) ?_;intro w9 hR9 hg9 xg;refine hK.out _ _ (HK9.out _ _ zq hg9) (fun _=>?_);clear hK K;try go_frame
      refine tkD 5 13 ?_;go_frame;refine dnD ?_;go_wp2_with fail
      have zA:=HB1.out.trans (xw.mono HB1.out.size);refine bodyPost_ret (Ac (g:=g) (cs:=(v).cells) rfl _ _ _ _ _ rfl hR9 underlying46 rfl Ao) rfl ⟨some (v),rfl,hEd.out,?_⟩;exact Below.grown (zA) hg9 (Below.size (zA)) (Wt hgw)
     ·have de:decide ((q:Int)<=((Ae m 10:Nat):Int))=false:=by simp;omega
      rw[de]at zH;have HE:Hid (Ae (BX (pV 3 r x) O) 10<q):=by unfold Hid;rw[<-HM.out];omega
      clear de he;go_wp2_with (first
       |(go_at_call 211;refine hBU.out.mono ?_;rintro en w5 ⟨rfl,hb5⟩;have ye:=hb4.trans (hb5.mono hb4.size);have xa:=xD.trans (ye.mono xD.size))
       |(go_at_call 214;refine(zH.out _ xa).mono ?_;rintro en w6 ⟨rfl,hb6⟩;have hAy:=ye.trans (hb6.mono ye.size)))
      go_roundw
      case rel=>
       refine⟨i+1,by go_num,by omega,hAy,fun k hk=>?_⟩;rw[Ah,HX.out,BF]at hk;rcases AP.1 hk with hk|hk
       ·exact HNo.out k hk
       ·rw[AM.1 hk];exact HE.out
      case measure=>simp[intOf];omega
    ·have di:=Wv (show nL<=i by omega)
     have yF:∀x,Bp 3 r O x->Ae (BX (pV 3 r x) O) 10<q:=by
      have h:=HNo.out;rw[AT (by rw[HNL.out];omega)]at h;exact fun x hx=>h x ((HL3.out x).2 hx)
     have yT:=AA yF;have HWh:=AA (hCk.out wr _ _ _ yb (V6 wr.heap.size wr));obtain⟨m,hm⟩:=Wr (BX (pA 3 r) O);have zG:m<1024:=by rw[hm];exact HLt.out _
     have hBU:Hid (Calls prog 211 #[.pointer (some ⟨b,0,none⟩),.int .i64 3,.int .i64 r,.func (.func 215) #[] #[]] wr fun e w'=>e= .returned (.int .i64 (m:Int))/\Wx wr w'):=by unfold Hid;rw[hm];exact HWh.out
     have HM:=AA hm;have zH:Hid (∀V,Wx w1 V->Calls prog 214 #[.pointer (some ⟨b,0,none⟩),.int .i64 (m:Int)] V fun e w'=>e= .returned (.bool (decide ((q:Int)<=((Ae m 10:Nat):Int))))/\Wx V w'):=fun V hV=>HEn.out V m hV zG
     clear yF HWh hm;by_cases he:q<=Ae m 10
     ·have de:decide ((q:Int)<=((Ae m 10:Nat):Int))=true:=by simp;omega
      rw[de]at zH;obtain⟨lw,hlw⟩:=Wr (CR m q);have hEc:Hid (∀V,Calls prog 209 #[.int .i64 (m:Int),.int .i64 (q:Int)] V fun e w'=>e= .returned (.int .i64 (lw:Int))/\Wx V w'):=fun V=>by rw[hlw];exact HLo.out m V zG
      obtain⟨v,hv⟩:∃v:Vt,v=Vt.mk 4 (s:Int) r 2 f (lw:Int) p Nm.zero:=⟨_,rfl⟩;have zg:Hid (∀V,Wx w1 V->Calls prog 206 #[.pointer (some ⟨b,0,none⟩),.int .i64 4,.int .i64 r,(Vl.mk 2 Nm.zero).val,.int .i64 (lw:Int)] V (fun e w'=>e= .returned (.tuple #[v.val,.bool true])/\Wx V w')):=fun V hV=>by rw[hv];exact HVo.out V (Vl.mk 2 Nm.zero) lw hV
      have hEd:Hid (Db q p s f O ow r (some v)):=⟨HD.out,HD'.out,.inr ⟨yT.out,by rw[<-HM.out];exact he,by rw[hv,hlw,HM.out]⟩⟩;have y1:∀V,Wx w1 V->V.cell? ⟨b,1,none⟩=some (.int .i64 (q:Int)):=HQ.out;have HY:=AA y1;clear hlw hv he de y1;go_wp2_with (first
       |(go_at_call 211;refine hBU.out.mono ?_;rintro en w5 ⟨rfl,hb5⟩;have xa:=yb.trans (hb5.mono yb.size))
       |(go_at_call 214;refine(zH.out _ xa).mono ?_;rintro en w6 ⟨rfl,hb6⟩;have xx:=xa.trans (hb6.mono xa.size);have y6:=HY.out _ xx)
       |(go_at_call 209;refine(hEc.out _).mono ?_;rintro en w7 ⟨rfl,hb7⟩;have xc:=xx.trans (hb7.mono xx.size))
       |(go_at_call 206;refine(zg.out _ xc).mono ?_;rintro en w8 ⟨rfl,hb8⟩;have xw:=xc.trans (hb8.mono xc.size))
       |(refine AJ rfl 46 (.tmp 4) (.tmp 64) rfl g (v).cells rfl rfl 46 Ai (HG.out _ xw) rfl Ao (fun u hu=>BH _ hu) ?_;intro w9 hR9 hg9 xg))
      have zA:=HB1.out.trans (xw.mono HB1.out.size);refine bodyPost_ret (Ac (g:=g) (cs:=(v).cells) rfl _ _ _ _ _ rfl hR9 underlying46 rfl Ao) rfl ⟨some (v),rfl,hEd.out,?_⟩;exact Below.grown (zA) hg9 (Below.size (zA)) (Wt hgw)
     ·have de:decide ((q:Int)<=((Ae m 10:Nat):Int))=false:=by simp;omega
      rw[de]at zH;have HE:Hid (Ae (BX (pA 3 r) O) 10<q):=by unfold Hid;rw[<-HM.out];omega
      clear de he;go_wp2_with (first
       |(go_at_call 211;refine hBU.out.mono ?_;rintro en w5 ⟨rfl,hb5⟩;have xa:=yb.trans (hb5.mono yb.size))
       |(go_at_call 214;refine(zH.out _ xa).mono ?_;rintro en w6 ⟨rfl,hb6⟩;have xx:=xa.trans (hb6.mono xa.size);have hA7:=HB1.out.trans (xx.mono HB1.out.size))
       |(refine AJ rfl 46 (.tmp 4) (.tmp 66) rfl g Ai rfl rfl 46 Ai (HG.out _ xx) rfl Ao (fun u hu=>CL hu) ?_;intro w9 hR9 hg9 xg))
      refine bodyPost_ret (Ac (g:=g) (cs:=Ai) rfl _ _ _ _ _ rfl hR9 underlying46 rfl Ao) rfl ⟨none,rfl,.inr (.inr ⟨yT.out,HE.out⟩),?_⟩;exact hA7.grown hg9 hA7.size (Wt hgw)
def Ro:Option Vl->Array Value
 |none=>Cb
 |some v=>v.cells
theorem TY{u:Value}(h:u∈Cb.toList):u.oneCell'=true:=EQ Vl.zero h
theorem Mb{w:World}{b:Nat}{M f q s:Int}{p:Nm}{A:Option Addr}{c mo:Nat}{O:List Vt}{ow:Int->Int->Bool}(h:FL w b M q s f p A c mo O ow)(hsm:O.length<=1000000)(r:Nat)(hr:r<=12):Calls prog 218 #[.pointer (some ⟨b,0,none⟩),.int .i64 (r:Int)] w fun e w'=>∃o:Option Vl,e= .returned (.tuple #[.agg (Ro o),.bool o.isSome])/\Jj r O o/\Wx w w':=by
 obtain⟨w1,hw1⟩:=Wr (w.alloc (.cells Cb 258));have hb1:Wx w w1:=by rw[hw1];exact(AC _ _).alloc (AB _) _
 obtain⟨g,hg⟩:=Wr w.heap.size;have hG1:Blk w1 g 258 Cb:=by rw[hw1,hg];exact Blk.new w _ _
 have hgw:w.heap.size<=g:=by omega
 have HG:Hid (∀V,Wx w1 V->Blk V g 258 Cb):=fun V hV=>hG1.below hV hG1.lt
 have hAz:=AA (Ji (h.below hb1) hsm 3 (r:Int));have hwr:IntKind.i64.wrap ((r:Int)+1)=(r:Int)+1:=by rw[IntKind.wrap_i64];omega
 have HB1:=AA hb1;have HW1:=AA hw1;have HGg:=AA hg;have hbx:Wx w1 w1:=AC _ _;clear h hw1 hb1 hg hG1;go_enter func218,ntmps218;go_upto_region 1 with fail
 simp only[<-HW1.out,<-HGg.out];go_upto_region 2 with(go_at_call 210;refine hAz.out.mono ?_;rintro en w3 ⟨v3,L,rfl,hL3,hLn,hS3,xC,hb3⟩;have xD:=hbx.trans hb3;obtain⟨A3,c3,rfl,hR3⟩:=Bg xC;have HR3:=AA hR3;have HL3:=AA hL3;have HS3:=AA hS3;obtain⟨nL,hnL⟩:=Ws L.length;rw[hnL]at hLn ⊢;have HNL:=AA hnL;clear xC hR3 hL3 hS3 hb3 hnL)
 have hDY:nL<=1000000:=by omega
 have xd:=HB1.out.trans (xD.mono HB1.out.size);rcases Nat.eq_zero_or_pos nL with h0|h0
 ·subst h0;go_wp2_with (refine AJ rfl 258 (.tmp 4) (.tmp 13) rfl g Cb rfl rfl 258 Cb (HG.out _ xD) rfl CS (fun u hu=>TY hu) ?_;intro w9 hR9 hg9 xg)
  refine bodyPost_ret (Ac (g:=g) (cs:=Cb) rfl _ _ _ _ _ rfl hR9 underlying258 rfl CS) rfl ⟨none,rfl,⟨L,HL3.out,HS3.out,by rw[AQ HNL.out];rfl⟩,?_⟩;exact xd.grown hg9 xd.size (Wt hgw)
 ·have n0:((nL:Int)==0)=false:=by simp;omega
  have HX:Hid (∀k,k<nL->∃x,L[k]? =some x/\Bp 3 r O x):=fun k hk=>⟨_,AE (by rw[HNL.out];exact hk),(HL3.out _).1 (List.getElem_mem _)⟩
  obtain⟨x,hx,hxv⟩:=HX.out 0 h0;obtain⟨g0,o,rfl,hb,xH⟩:=HR3.out.cells (by intro e;have:=AY vlc 9 L (FV L);rw[e,HNL.out]at this;simp at this;omega);have x0:w3.cell? ⟨g0,o,none⟩=some (.int .i64 x.choice):=by
   have:=(EM (HR3.out.vlRow hx)).2 0 (.int .i64 x.choice) rfl;rwa[Nat.zero_mul,Nat.add_zero]at this
  have x1:AK w3 g0 o 9=some x.cells:=by have:=HR3.out.vlRow hx;rwa[Nat.zero_mul,Nat.add_zero]at this
  have hn0:(0:Int)<(nL:Int):=by omega
  have HX0:=AA hx;clear xH hx hxv;obtain⟨d2,hd2⟩:=Wr ((x.choice==0));have e2:=hd2.symm;have HD2:=AA hd2.symm;clear hd2;by_cases h2:1<nL
  ·have d3:=Wu (show 1<nL by omega)
   have hn1:(1:Int)<(nL:Int):=by omega
   obtain⟨y,hy,hyv⟩:=HX.out 1 h2;have y1:AK w3 g0 (o+9) 9=some y.cells:=by have:=HR3.out.vlRow hy;rwa[Nat.one_mul]at this
   have HY1:=AA hy;clear hy hyv;by_cases hp:((r:Int)+1)%2=1
   rotate_left
   ·have e1:(((r:Int)+1)%2==1)=false:=by simpa using hp
    go_wp2_with (refine AJ rfl 258 (.tmp 4) (.tmp 35) rfl g x.cells rfl rfl 258 Cb (HG.out _ xD) rfl CS (fun u hu=>EQ _ hu) ?_;intro w9 hR9 hg9 xg)
    refine bodyPost_ret (Ac (g:=g) (cs:=x.cells) rfl _ _ _ _ _ rfl hR9 underlying258 rfl CS) rfl ⟨some x,rfl,⟨L,HL3.out,HS3.out,Lc HX0.out (fun h=>hp h.1)⟩,?_⟩;exact xd.grown hg9 xd.size (Wt hgw)
   ·have e1:(((r:Int)+1)%2==1)=true:=by simpa using hp
    cases d2 with
    |false=>
     go_wp2_with (refine AJ rfl 258 (.tmp 4) (.tmp 35) rfl g x.cells rfl rfl 258 Cb (HG.out _ xD) rfl CS (fun u hu=>EQ _ hu) ?_;intro w9 hR9 hg9 xg)
     refine bodyPost_ret (Ac (g:=g) (cs:=x.cells) rfl _ _ _ _ _ rfl hR9 underlying258 rfl CS) rfl ⟨some x,rfl,⟨L,HL3.out,HS3.out,Lc HX0.out (fun h=>by have:=HD2.out;rw[h.2]at this;cases this)⟩,?_⟩;exact xd.grown hg9 xd.size (Wt hgw)
    |true=>
     go_wp2_with (refine AJ rfl 258 (.tmp 4) (.tmp 32) rfl g y.cells rfl rfl 258 Cb (HG.out _ xD) rfl CS (fun u hu=>EQ _ hu) ?_;intro w9 hR9 hg9 xg)
     refine bodyPost_ret (Ac (g:=g) (cs:=y.cells) rfl _ _ _ _ _ rfl hR9 underlying258 rfl CS) rfl ⟨some y,rfl,⟨L,HL3.out,HS3.out,Uy HX0.out ⟨hp,by simpa using HD2.out⟩ HY1.out⟩,?_⟩;exact xd.grown hg9 xd.size (Wt hgw)
  ·have d3:=Wv (show nL<=1 by omega)
   by_cases hp:((r:Int)+1)%2=1
   rotate_left
   ·have e1:(((r:Int)+1)%2==1)=false:=by simpa using hp
    go_wp2_with (refine AJ rfl 258 (.tmp 4) (.tmp 35) rfl g x.cells rfl rfl 258 Cb (HG.out _ xD) rfl CS (fun u hu=>EQ _ hu) ?_;intro w9 hR9 hg9 xg)
    refine bodyPost_ret (Ac (g:=g) (cs:=x.cells) rfl _ _ _ _ _ rfl hR9 underlying258 rfl CS) rfl ⟨some x,rfl,⟨L,HL3.out,HS3.out,Lc HX0.out (fun h=>hp h.1)⟩,?_⟩;exact xd.grown hg9 xd.size (Wt hgw)
   ·have e1:(((r:Int)+1)%2==1)=true:=by simpa using hp
    cases d2 with
    |false=>
     go_wp2_with (refine AJ rfl 258 (.tmp 4) (.tmp 35) rfl g x.cells rfl rfl 258 Cb (HG.out _ xD) rfl CS (fun u hu=>EQ _ hu) ?_;intro w9 hR9 hg9 xg)
     refine bodyPost_ret (Ac (g:=g) (cs:=x.cells) rfl _ _ _ _ _ rfl hR9 underlying258 rfl CS) rfl ⟨some x,rfl,⟨L,HL3.out,HS3.out,Lc HX0.out (fun h=>by have:=HD2.out;rw[h.2]at this;cases this)⟩,?_⟩;exact xd.grown hg9 xd.size (Wt hgw)
    |true=>
     go_wp2_with (refine AJ rfl 258 (.tmp 4) (.tmp 35) rfl g x.cells rfl rfl 258 Cb (HG.out _ xD) rfl CS (fun u hu=>EQ _ hu) ?_;intro w9 hR9 hg9 xg)
     refine bodyPost_ret (Ac (g:=g) (cs:=x.cells) rfl _ _ _ _ _ rfl hR9 underlying258 rfl CS) rfl ⟨some x,rfl,⟨L,HL3.out,HS3.out,Uz HX0.out (List.getElem?_eq_none (by rw[HNL.out];omega))⟩,?_⟩;exact xd.grown hg9 xd.size (Wt hgw)
theorem Ou{o:Oper}{a:Act}(x y:Operand)(m n:Nat)(ho:o.op= .binOp .or 22 x y 22)(hx:a.eval x= .int .i64 (m:Int))(hy:a.eval y= .int .i64 (n:Int))(hm:m<1024)(hn:n<1024)(w:World):(execOp a.eval o).run prog w= .ok (.value (.int .i64 ((m|||n:Nat):Int))) w:=by
 have h:=KH m n (by omega) (by omega);obtain⟨z2,hz2⟩:∃z:Int,z=((m|||n:Nat):Int):=⟨_,rfl⟩;rw[<-hz2]at h ⊢;unfold execOp;rw[ho];simp only[hx,hy];clear hz2;go_simp
theorem TZ{o:Oper}{a:Act}(x y:Operand)(m n z:Int)(ho:o.op= .binOp .andNot 22 x y 22)(hx:a.eval x= .int .i64 m)(hy:a.eval y= .int .i64 n)(hz:z=bits .andNot .i64 m n)(w:World):(execOp a.eval o).run prog w= .ok (.value (.int .i64 z)) w:=by
 have h:=hz.symm;unfold execOp;rw[ho];simp only[hx,hy];clear hz;go_simp
theorem Ib{m:Nat}(h:m<1024):xOf (m:Int)=m:=by unfold xOf;omega
theorem Mc{w:World}{b:Nat}{M f:Int}{q s:Nat}{p:Nm}{A:Option Addr}{c mo:Nat}{O:List Vt}{ow:Int->Int->Bool}(h:FL w b M (q:Int) (s:Int) f p A c mo O ow)(hq1:1<=q)(yg:q<=10)(hO:∀v∈O,AW v)(hsm:O.length<=1000000)(r:Nat)(hr:r<=12):Calls prog 163 #[.pointer (some ⟨b,0,none⟩),.int .i64 (r:Int)] w (DA (E7 q p s f O ow (r:Int)) w):=by
 obtain⟨w1,hw1⟩:=Wr (w.alloc (.cells Ai 46));have hb1:Wx w w1:=by rw[hw1];exact(AC _ _).alloc (AB _) _
 obtain⟨g,hg⟩:=Wr w.heap.size;have hG1:Blk w1 g 46 Ai:=by rw[hw1,hg];exact Blk.new w _ _
 have hgw:w.heap.size<=g:=by omega
 have hV1:=h.below hb1;have HG:Hid (∀V,Wx w1 V->Blk V g 46 Ai):=fun V hV=>hG1.below hV hG1.lt
 have hwr:IntKind.i64.wrap ((r:Int)+1)=(r:Int)+1:=by rw[IntKind.wrap_i64];omega
 have hwq:IntKind.i64.wrap ((q:Int)-1)=((q-1:Nat):Int):=by rw[IntKind.wrap_i64];omega
 have hBS:=AA (Do hV1 4 (r:Int));have hBT:=AA (Do hV1 3 ((r:Int)+1));have hAz:=AA (fun V (hV:Wx w1 V)=>Ji (hV1.below hV) hsm 4 (r:Int));have HCar:=AA (fun V (hV:Wx w1 V)=>Mb (hV1.below hV) hsm r hr);have hCk:Hid (∀(V:World) (pr:Vt->Bool) (g':Nat) (lb:Array Value),Wx w1 V->B5 V.heap.size V g' lb pr->Calls prog 211 #[.pointer (some ⟨b,0,none⟩),.int .i64 4,.int .i64 (r:Int),.func (.func g') #[] lb] V fun e w'=>
   e= .returned (.int .i64 ((BX (pW 4 r pr) O:Nat):Int))/\Wx V w'):=fun V pr g' lb hV hF=>Ok (hV1.below hV) hO hsm 4 r pr g' lb hF
 have HEn:Hid (∀(V:World) (m:Nat) (d:Bool),Wx w1 V->m<1024->d=decide (q<=Ae m 10)->Calls prog 214 #[.pointer (some ⟨b,0,none⟩),.int .i64 (m:Int)] V fun e w'=>e= .returned (.bool d)/\Wx V w'):=fun V m d hV hm hd=>by
  have h:=KY (hV1.below hV) (m:Int);rwa[Ib hm,show decide ((q:Int)<=((Ae m 10:Nat):Int))=d from by rw[hd];exact decide_eq_decide.2 (by omega)]at h
 have HLo:Hid (∀(X:Int) (k lw:Nat) (V:World),k<=10->lw=CR (xOf X) k->Calls prog 209 #[.int .i64 X,.int .i64 (k:Int)] V fun e w'=>e= .returned (.int .i64 (lw:Int))/\Wx V w'):=fun X k lw V hk hl=>by rw[hl];exact Le X k hk V
 have HVo:Hid (∀(V:World) (x:Vl) (sup:Int),Wx w1 V->Calls prog 206 #[.pointer (some ⟨b,0,none⟩),.int .i64 3,.int .i64 ((r:Int)+1),x.val,.int .i64 sup] V (fun e w'=>e= .returned (.tuple #[(Vt.mk 3 (s:Int) ((r:Int)+1) x.choice f sup p x.name).val,.bool true])/\Wx V w')):=fun V x sup hV=>Ga (hV1.below hV) 3 _ x sup
 have HQ:Hid (∀V,Wx w1 V->V.cell? ⟨b,1,none⟩=some (.int .i64 (q:Int))):=fun V hV=>(hV1.below hV).blk.cell 1
 have HVb:Hid (∀V,Wx w1 V->FL V b M (q:Int) (s:Int) f p A c mo O ow):=fun V hV=>hV1.below hV
 have HLt:Hid (∀pr:Vt->Bool,BX pr O<1024):=fun pr=>Fa (fun v hv=>(hO v hv).2.1)
 have HB1:=AA hb1;have HW1:=AA hw1;have HGg:=AA hg;have hgl:g<w1.heap.size:=hG1.lt;obtain⟨d,hd⟩:=Wr (ow 4 (r:Int));obtain⟨d',hd'⟩:=Wr (ow 3 ((r:Int)+1));rw[<-hd]at hBS;rw[<-hd']at hBT;have hbx:Wx w1 w1:=AC _ _;clear h hO hw1 hb1 hg hG1 hV1;go_enter func163,ntmps163;go_upto_region 1 with fail
 simp only[<-HW1.out,<-HGg.out];go_wp2_with fail
 refine hBS.out.mono ?_;rintro en w2 ⟨rfl,hw2⟩;replace hw2:=hw2.symm;subst hw2;clear hBS;have HD0:=AA hd.symm;have yz:=AA hd'.symm;clear hd hd';cases d with
 |false=>
  go_wp2_with (refine AJ rfl 46 (.tmp 4) (.tmp 23) rfl g Ai rfl rfl 46 Ai (HG.out _ hbx) rfl Ao (fun u hu=>CL hu) ?_;intro w9 hR9 hg9 xg)
  refine bodyPost_ret (Ac (g:=g) (cs:=Ai) rfl _ _ _ _ _ rfl hR9 underlying46 rfl Ao) rfl ⟨none,rfl,.inl HD0.out,?_⟩;exact Below.grown (HB1.out) hg9 (Below.size (HB1.out)) (Wt hgw)
 |true=>
  go_wp2_with fail
  refine hBT.out.mono ?_;rintro en w2 ⟨rfl,hw2⟩;replace hw2:=hw2.symm;subst hw2;clear hBT;cases d' with
  |true=>
   go_wp2_with (refine AJ rfl 46 (.tmp 4) (.tmp 23) rfl g Ai rfl rfl 46 Ai (HG.out _ hbx) rfl Ao (fun u hu=>CL hu) ?_;intro w9 hR9 hg9 xg)
   refine bodyPost_ret (Ac (g:=g) (cs:=Ai) rfl _ _ _ _ _ rfl hR9 underlying46 rfl Ao) rfl ⟨none,rfl,.inr (.inl yz.out),?_⟩;exact Below.grown (HB1.out) hg9 (Below.size (HB1.out)) (Wt hgw)
  |false=>
   have HD:=HD0;have HD':=yz;have hGU:Hid (∀(x:Vl) (v:Vt),Bp 4 (r:Int) O x->q<=Ae (eiS O (r:Int) x) 10->v=Vt.mk 3 (s:Int) ((r:Int)+1) x.choice f ((Kb q O (r:Int) x:Nat):Int) p x.name->E7 q p s f O ow (r:Int) (some v)):=fun x v h1 h2 h3=>⟨HD.out,HD'.out,.inl ⟨x,h1,h2,h3⟩⟩
   have hGV:Hid (∀(x:Vl) (v:Vt),(∀y,Bp 4 (r:Int) O y->Ae (eiS O (r:Int) y) 10<q)->q<=Ae (BX (pM 4 (r:Int)) O) 10->Jj (r:Int) O (some x)->v=Vt.mk 3 (s:Int) ((r:Int)+1) x.choice f ((CR (BX (pM 4 (r:Int)) O) q:Nat):Int) p x.name->E7 q p s f O ow (r:Int) (some v)):=fun x v h1 h2 h3 h4=>⟨HD.out,HD'.out,.inr ⟨h1,h2,x,h3,h4⟩⟩
   have HWm:=AA (hCk.out w1 _ _ _ hbx (V7 w1.heap.size w1));obtain⟨mx,hmx⟩:=Wr (BX (pM 4 (r:Int)) O);have hBy:mx<1024:=by rw[hmx];exact HLt.out _
   have hGW:Hid (Calls prog 211 #[.pointer (some ⟨b,0,none⟩),.int .i64 4,.int .i64 (r:Int),.func (.func 216) #[] #[]] w1 fun e w'=>e= .returned (.int .i64 (mx:Int))/\Wx w1 w'):=by unfold Hid;rw[hmx];exact HWm.out
   have HMx:=AA hmx;clear HWm hmx;go_wp2_with (first
    |(go_at_call 211;refine hGW.out.mono ?_;rintro en wm ⟨rfl,hbm⟩;have hEe:=hbx.trans hbm;have hCm:=AA (hAz.out _ hEe))
    |(go_at_call 210;refine hCm.out.mono ?_;rintro en w3 ⟨v3,L,rfl,hL3,hLn,hS3,xC,hb3⟩;have xD:=hEe.trans (hb3.mono hEe.size);obtain⟨A3,c3,rfl,hR3⟩:=Bg xC;have HR3:=AA hR3;have HL3:=AA hL3;obtain⟨nL,hnL⟩:=Ws L.length;rw[hnL]at hLn ⊢;have HNL:=AA hnL;clear xC hR3 hL3 hb3 hnL hS3))
   have hDY:nL<=1000000:=by omega
   clear hGW hCm
   go_loopw [31] (fun iv wr=>∃i:Nat,iv= .int .i64 (i:Int)/\i<=nL/\Wx w3 wr/\Hid (∀j y,j<i->L[j]? =some y->Ae (eiS O (r:Int) y) 10<q)) (fun iv _=>nL-(intOf iv).toNat)
   case atStart=>exact⟨0,rfl,Nat.zero_le _,AC _ _,fun j y hj=>by omega⟩
   case round=>
    obtain⟨i,rfl,hin,hbr,HNo⟩:=hrel;have yb:=xD.trans (hbr.mono xD.size);by_cases hi:i<nL
    ·have di:=Wu (show i<nL by omega)
     obtain⟨x,hx⟩:∃x,L[i]? =some x:=⟨_,AE (by rw[HNL.out];exact hi)⟩;obtain⟨g0,o,rfl,hb,xH⟩:=HR3.out.cells (by intro e;have:=AY vlc 9 L (FV L);rw[e,HNL.out]at this;simp at this;omega);clear xH;have x1:AK wr g0 (o+i*9) 9=some x.cells:=(HR3.out.below hbr).vlRow hx;have HX:Hid (Bp 4 (r:Int) O x):=(HL3.out x).1 (AN hx);have HXi:=AA hx;clear hx;go_upto_region 7 with fail
     obtain⟨w4,hw4⟩:=Wr (wr.alloc (.cells x.cells 258));rw[<-hw4];have hB4:Blk w4 wr.heap.size 258 x.cells:=by rw[hw4];exact Blk.new wr _ _
     have hb4:Wx w3 w4:=by rw[hw4];exact hbr.alloc hbr.size _
     obtain⟨z,hz⟩:=Wr wr.heap.size;rw[<-hz]at hB4 ⊢;have xl:=xD.trans (hb4.mono xD.size);have HZB:Hid (∀V,Wx w4 V->Blk V z 258 x.cells):=fun V hV=>hB4.below hV hB4.lt
     have hzg:z≠g:=by have:=yb.size;omega
     have hCl:Hid (B5 w4.heap.size w4 217 #[.pointer (some ⟨z,0,none⟩)] (fun v=>decide (Bh v=x))):=V5 x z w4.heap.size w4 hB4.lt hB4;have HWh:=AA (hCk.out w4 _ _ _ xl hCl.out);obtain⟨m,hm⟩:=Wr (BX (pV 4 (r:Int) x) O);have zG:m<1024:=by rw[hm];exact HLt.out _
     have hBU:Hid (Calls prog 211 #[.pointer (some ⟨b,0,none⟩),.int .i64 4,.int .i64 (r:Int),.func (.func 217) #[] #[.pointer (some ⟨z,0,none⟩)]] w4 fun e w'=>e= .returned (.int .i64 (m:Int))/\Wx w4 w'):=by unfold Hid;rw[hm];exact HWh.out
     obtain⟨mm,hmm⟩:=Wr (m|||mx);have hGX:mm<1024:=by rw[hmm];exact Nat.or_lt_two_pow (n:=10) zG hBy
     have hor:bits .or .i64 (m:Int) (mx:Int)=(mm:Int):=by rw[hmm];exact KH m mx (by omega) (by omega)
     have HMm:=AA hmm;have HMv:=AA hm;have HEi:Hid (eiS O (r:Int) x=mm):=by unfold Hid;rw[hmm,hm,HMx.out]
     obtain⟨d6,hd6⟩:=Wr (decide (q<=Ae mm 10));have HD6:=AA hd6;clear hd6;clear hw4 hB4 x1 HWh hCl hm hmm;clear hz;go_wp2_with (first
      |(go_at_call 211;refine hBU.out.mono ?_;rintro en w5 ⟨rfl,hb5⟩;have xf:=hb5;have xa:=xl.trans (hb5.mono xl.size);have zH:=AA (HEn.out w5 mm d6 xa hGX HD6.out))
      |(go_at_call 214;refine zH.out.mono ?_;rintro en w6 ⟨rfl,hb6⟩;have yB:=xf.trans (hb6.mono xf.size);have xx:=xl.trans (yB.mono xl.size);cases d6)
      |fail)
     ·have hAy:=hb4.trans (yB.mono hb4.size);go_wp2;go_roundw
      case rel=>
       refine⟨i+1,by go_num,by omega,hAy,fun j y hj hy=>?_⟩;rcases Nat.lt_or_ge j i with h|h
       ·exact HNo.out j y h hy
       ·have e:j=i:=by omega
        subst e;rw[HXi.out]at hy;injection hy with hy
        subst hy;rw[HEi.out];exact Nat.lt_of_not_le (of_decide_eq_false HD6.out.symm)
      case measure=>simp[intOf];omega
     ·obtain⟨on,hon⟩:=Wr (CR m 1);have hGY:on<1024:=by rw[hon];exact Dr _ _
      have HOn:=AA hon;have HLo1:Hid (∀V,Calls prog 209 #[.int .i64 (m:Int),.int .i64 1] V fun e w'=>e= .returned (.int .i64 (on:Int))/\Wx V w'):=fun V=>HLo.out (m:Int) 1 on V (by omega) (by rw[Ib zG];exact hon)
      clear hon;go_upto_region 10 with(go_at_call 209;refine(HLo1.out _).mono ?_;rintro en w7 ⟨rfl,hb7⟩;have hAb:=yB.trans (hb7.mono yB.size);have xc:=xl.trans (hAb.mono xl.size))
      obtain⟨X,hX⟩:=Wr (bits .andNot .i64 (mm:Int) (on:Int));have HXe:=AA hX;obtain⟨l8,hl8⟩:=Wr (CR (xOf X) (q-1));have hGZ:l8<1024:=by rw[hl8];exact Dr _ _
      have HSup:Hid (Kb q O (r:Int) x=on|||l8):=by
       unfold Hid;rw[hl8,hX,HOn.out,HMm.out,HMv.out,HMx.out]
      have hEf:Hid (∀V,Calls prog 209 #[.int .i64 X,.int .i64 ((q-1:Nat):Int)] V fun e w'=>e= .returned (.int .i64 (l8:Int))/\Wx V w'):=fun V=>HLo.out X (q-1) l8 V (by omega) hl8
      clear hl8;have zg:Hid (∀(V:World) (lw:Nat),Wx w1 V->Calls prog 206 #[.pointer (some ⟨b,0,none⟩),.int .i64 3,.int .i64 ((r:Int)+1),x.val,.int .i64 (lw:Int)] V (fun e w'=>∃v:Vt,v=Vt.mk 3 (s:Int) ((r:Int)+1) x.choice f (lw:Int) p x.name/\e= .returned (.tuple #[v.val,.bool true])/\Wx V w')):=fun V lw hV=>(HVo.out V x lw hV).mono fun e w' h=>⟨_,rfl,h⟩
      have HS:Hid (∀V,Wx w4 V->AK V z 0 9=some x.cells/\V.cell? ⟨b,1,none⟩=some (.int .i64 (q:Int))):=fun V hV=>⟨(HZB.out V hV).row 9 rfl,HQ.out V (xl.trans (hV.mono xl.size))⟩
      have HK9:Hid (∀V V',Wx w4 V->V.grownBy V' (some g)->AK V' z 0 9=some x.cells/\V'.cell? ⟨b,1,none⟩=some (.int .i64 (q:Int))):=fun V V' hV hg=>by
       have hv:=HVb.out V (xl.trans (hV.mono xl.size));have hbg:b≠g:=by intro e;have h1:=hv.blk;have h2:=HG.out V (xl.trans (hV.mono xl.size));rw[e]at h1;exact absurd (Cw h1 h2) (by decide)
       exact⟨((HZB.out V hV).kept hg (by intro e;injection e with e;exact hzg e)).row 9 rfl,(hv.blk.kept hg (by intro e;injection e with e;exact hbg e)).cell 1⟩
      clear hX;refine rgD (fun V=>AK V z 0 9=some x.cells/\V.cell? ⟨b,1,none⟩=some (.int .i64 (q:Int))) (HS.out _ hAb.drew) fun _=>?_
      iterate 7 (refine tkA ?_;go_frame)
      refine Ay (some 53) (i:=7) (v:=(.int .i64 (mm:Int))) rfl rfl (by kernel_rfl) (by kernel_rfl) (by kernel_rfl) (fun _ _ _ h=>h) (by rfl) (fun wq _=>by rw[HMm.out];exact Ou (.tmp 51) (.tmp 52) m mx rfl rfl rfl zG hBy wq) (by assumption) ?_;go_frame;refine tkD 54 8 ?_;go_frame;refine tkV 55 9 (.int .i64 X) (fun wq _=>TZ (.tmp 53) (.tmp 54) (mm:Int) (on:Int) X rfl rfl rfl HXe.out wq) ?_;go_frame
      iterate 5 (refine tkA ?_;go_frame)
      refine rd1 15 fun K hK=>?_
      go_simp;refine(hEf.out _).mono ?_;rintro en w8 ⟨rfl,hb8⟩;have zq:=hAb.drew.trans (hb8.mono hAb.size);go_wp2_with fail
      refine hK.out _ _ (HS.out _ zq) (fun _=>?_);clear hK K;try go_frame
      refine tkV 62 16 (.int .i64 ((on|||l8:Nat):Int)) (fun wq _=>Ou (.tmp 50) (.tmp 61) on l8 rfl rfl rfl hGY hGZ wq) ?_;go_frame;refine rd1 17 fun K hK=>?_
      go_simp;refine(zg.out _ _ (xl.trans (zq.mono xl.size))).mono ?_;rintro en w10 ⟨v,hv,rfl,hBW⟩;have hCo:=zq.trans (hBW.mono zq.size);have hEA:=xl.trans (hCo.mono xl.size);have HVe:=AA hv;clear hv;go_wp2_with fail
      refine hK.out _ _ (HS.out _ hCo) (fun _=>?_);clear hK K;try go_frame
      iterate 2 (refine tkA ?_;go_frame)
      refine rd1 20 fun K hK=>?_
      rw[if_pos (by rfl)];refine BU 46 (.tmp 4) (.tmp 64) (by rfl) g v.cells (by rfl) (by rfl) 46 Ai (HG.out _ hEA) (by rfl) Ao (fun u hu=>BH _ hu) (by rfl) ?_;intro w9 hR9 hg9 xg;refine hK.out _ _ (HK9.out _ _ hCo hg9) (fun _=>?_);clear hK K;try go_frame
      refine tkD 5 21 ?_;go_frame;refine dnD ?_;go_wp2_with fail
      have zA:=HB1.out.trans (hEA.mono HB1.out.size);refine bodyPost_ret (Ac (g:=g) (cs:=(v).cells) rfl _ _ _ _ _ rfl hR9 underlying46 rfl Ao) rfl ⟨some (v),rfl,hGU.out x v HX.out (by rw[HEi.out];exact of_decide_eq_true HD6.out.symm) (by rw[HSup.out];exact HVe.out),?_⟩;exact Below.grown (zA) hg9 (Below.size (zA)) (Wt hgw)
    ·have di:=Wv (show nL<=i by omega)
     obtain⟨d6,hd6⟩:=Wr (decide (q<=Ae mx 10));have HD6:=AA hd6;have zH:=AA (HEn.out wr mx d6 yb hBy hd6);have yT:Hid (∀y,Bp 4 (r:Int) O y->Ae (eiS O (r:Int) y) 10<q):=fun y hy=>by
      obtain⟨j,hj⟩:=List.mem_iff_getElem?.1 ((HL3.out y).2 hy);have h1:=(AF.1 hj).1;rw[HNL.out]at h1;exact HNo.out j y (by omega) hj
     clear hd6;go_wp2_with fail
     refine zH.out.mono ?_;rintro en w6 ⟨rfl,hb6⟩;have xx:=yb.trans (hb6.mono yb.size);have hA7:=HB1.out.trans (xx.mono HB1.out.size);cases d6
     ·skip
      go_wp2_with (refine AJ rfl 46 (.tmp 4) (.tmp 71) rfl g Ai rfl rfl 46 Ai (HG.out _ xx) rfl Ao (fun u hu=>CL hu) ?_;intro w9 hR9 hg9 xg)
      refine bodyPost_ret (Ac (g:=g) (cs:=Ai) rfl _ _ _ _ _ rfl hR9 underlying46 rfl Ao) rfl ⟨none,rfl,.inr (.inr ⟨yT.out,.inl (by rw[<-HMx.out];exact Nat.lt_of_not_le (of_decide_eq_false HD6.out.symm))⟩),?_⟩;exact Below.grown (hA7) hg9 (Below.size (hA7)) (Wt hgw)
     ·have hGa:=AA (HCar.out _ xx);go_wp2_with fail
      refine hGa.out.mono ?_;rintro en w7 ⟨ox,rfl,hox,hb7⟩;have xc:=xx.trans (hb7.mono xx.size);have zS:=HB1.out.trans (xc.mono HB1.out.size);cases ox with
      |none=>
       have HOx:=AA hox;clear hox;simp only[Ro,Option.isSome_none];obtain⟨w8,hw8⟩:=Wr (w7.alloc (.cells Cb 258));have xw:Wx w1 w8:=by rw[hw8];exact xc.alloc xc.size _
       have zA:=HB1.out.trans (xw.mono HB1.out.size);go_upto_region 15 with fail
       try rw[<-hw8]
       clear hw8;go_wp2_with (refine AJ rfl 46 (.tmp 4) (.tmp 80) rfl g Ai rfl rfl 46 Ai (HG.out _ xw) rfl Ao (fun u hu=>CL hu) ?_;intro w9 hR9 hg9 xg)
       refine bodyPost_ret (Ac (g:=g) (cs:=Ai) rfl _ _ _ _ _ rfl hR9 underlying46 rfl Ao) rfl ⟨none,rfl,.inr (.inr ⟨yT.out,.inr HOx.out.no⟩),?_⟩;exact Below.grown (zA) hg9 (Below.size (zA)) (Wt hgw)
      |some x=>
       have HX:=AA hox;clear hox;simp only[Ro,Option.isSome_some];obtain⟨w8,hw8⟩:=Wr (w7.alloc (.cells x.cells 258));have xw:Wx w1 w8:=by rw[hw8];exact xc.alloc xc.size _
       have hB8:Blk w8 w7.heap.size 258 x.cells:=by rw[hw8];exact Blk.new w7 _ _
       go_upto_region 15 with fail
       rw[<-hw8];obtain⟨z,hz⟩:=Wr w7.heap.size;rw[<-hz]at hB8 ⊢;have hzg:z≠g:=by have:=xc.size;omega
       have HZB:Hid (∀V,Wx w8 V->Blk V z 258 x.cells):=fun V hV=>hB8.below hV hB8.lt
       have hEg:Wx w8 w8:=AC _ _;obtain⟨l8,hl8⟩:=Wr (CR mx q);have HL8:=AA hl8;have hEf:Hid (∀V,Calls prog 209 #[.int .i64 (mx:Int),.int .i64 (q:Int)] V fun e w'=>e= .returned (.int .i64 (l8:Int))/\Wx V w'):=fun V=>HLo.out mx q l8 V yg (by rw[Ib hBy];exact hl8)
       clear hl8;have zg:Hid (∀(V:World) (lw:Nat),Wx w1 V->Calls prog 206 #[.pointer (some ⟨b,0,none⟩),.int .i64 3,.int .i64 ((r:Int)+1),x.val,.int .i64 (lw:Int)] V (fun e w'=>∃v:Vt,v=Vt.mk 3 (s:Int) ((r:Int)+1) x.choice f (lw:Int) p x.name/\e= .returned (.tuple #[v.val,.bool true])/\Wx V w')):=fun V lw hV=>(HVo.out V x lw hV).mono fun e w' h=>⟨_,rfl,h⟩
       have HS:Hid (∀V,Wx w8 V->AK V z 0 9=some x.cells/\V.cell? ⟨b,1,none⟩=some (.int .i64 (q:Int))):=fun V hV=>⟨(HZB.out V hV).row 9 rfl,HQ.out V (xw.trans (hV.mono xw.size))⟩
       have HK9:Hid (∀V V',Wx w8 V->V.grownBy V' (some g)->AK V' z 0 9=some x.cells/\V'.cell? ⟨b,1,none⟩=some (.int .i64 (q:Int))):=fun V V' hV hg=>by
        have hv:=HVb.out V (xw.trans (hV.mono xw.size));have hbg:b≠g:=by intro e;have h1:=hv.blk;have h2:=HG.out V (xw.trans (hV.mono xw.size));rw[e]at h1;exact absurd (Cw h1 h2) (by decide)
        exact⟨((HZB.out V hV).kept hg (by intro e;injection e with e;exact hzg e)).row 9 rfl,(hv.blk.kept hg (by intro e;injection e with e;exact hbg e)).cell 1⟩
       clear hw8 hz hB8;go_upto_region 17 with fail
       refine rgD (fun V=>AK V z 0 9=some x.cells/\V.cell? ⟨b,1,none⟩=some (.int .i64 (q:Int))) (HS.out _ hEg.drew) fun _=>?_
       iterate 9 (refine tkA ?_;go_frame)
       refine rd1 9 fun K hK=>?_
       go_simp;refine(hEf.out _).mono ?_;rintro en w10 ⟨rfl,hBW⟩;have hCA:=hEg.drew.trans (hBW.mono hEg.size);go_wp2_with fail
       refine hK.out _ _ (HS.out _ hCA) (fun _=>?_);clear hK K;try go_frame
       refine rd1 10 fun K hK=>?_
       go_simp;refine(zg.out _ _ (xw.trans (hCA.mono xw.size))).mono ?_;rintro en w11 ⟨v,hv,rfl,yr⟩;have hCp:=hCA.trans (yr.mono hCA.size);have hEB:=xw.trans (hCp.mono xw.size);have HVe:=AA hv;clear hv;go_wp2_with fail
       refine hK.out _ _ (HS.out _ hCp) (fun _=>?_);clear hK K;try go_frame
       iterate 2 (refine tkA ?_;go_frame)
       refine rd1 13 fun K hK=>?_
       rw[if_pos (by rfl)];refine BU 46 (.tmp 4) (.tmp 92) (by rfl) g v.cells (by rfl) (by rfl) 46 Ai (HG.out _ hEB) (by rfl) Ao (fun u hu=>BH _ hu) (by rfl) ?_;intro w9 hR9 hg9 xg;refine hK.out _ _ (HK9.out _ _ hCp hg9) (fun _=>?_);clear hK K;try go_frame
       refine tkD 5 14 ?_;go_frame;refine dnD ?_;go_wp2_with fail
       have hEC:=HB1.out.trans (hEB.mono HB1.out.size);refine bodyPost_ret (Ac (g:=g) (cs:=(v).cells) rfl _ _ _ _ _ rfl hR9 underlying46 rfl Ao) rfl ⟨some (v),rfl,hGV.out x v yT.out (by rw[<-HMx.out];exact of_decide_eq_true HD6.out.symm) HX.out (by rw[<-HMx.out,<-HL8.out];exact HVe.out),?_⟩;exact Below.grown (hEC) hg9 (Below.size (hEC)) (Wt hgw)
end
end Go.Proofs.YtadllffeoibelaaGreat
