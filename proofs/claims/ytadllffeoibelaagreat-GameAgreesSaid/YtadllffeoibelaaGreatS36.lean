/-
  What these parts of the proof come to, functions walked and plain laws: Vprec, Vcar. No condition.
-/
import Derived.Test.YtadllffeoibelaaGreatS34
import Derived.Test.YtadllffeoibelaaGreatS35
import Derived.Test.YtadllffeoibelaaGreatS6
namespace Go.Proofs.YtadllffeoibelaaGreat
set_option maxRecDepth 100000
set_option maxHeartbeats 32000000
set_option linter.all false
section
open Go.RowKit Go.Shelf
attribute [local go_sem ↓] Go.wp_at_zero Go.wp_at_succ An Au Av Aw DK
attribute [local go_sem] BD BH BI BJ EO AN AW AQ
theorem Ji{w:World}{b:Nat}{M f:Int}{q s:Nat}{p:Nm}{A:Option Addr}{c mo:Nat}{O:List Vt}{ow:Int→Int→Bool}(h:EU w b M (q:Int) (s:Int) f p A c mo O ow)(hq10:q≤10)(hO:∀v∈O,Ae v)(hsm:O.length≤1000000)(r:Int):Calls Tryz.prog 162 #[.pointer (some ⟨b,0,none⟩),.int .i64 r] w (Cv (DI q p s f O ow r) w):=by
 obtain⟨w1,hw1⟩:∃w1,w1=w.alloc (.cells Ah 46):=⟨_,rfl⟩;have hb1:Below w.heap.size w w1:=by rw[hw1];exact(AC _ _).alloc (AB _) _
 obtain⟨g,hg⟩:∃g,g=w.heap.size:=⟨_,rfl⟩;have hG1:Blk w1 g 46 Ah:=by rw[hw1,hg];exact Blk.new w _ _
 have hgw:w.heap.size≤g:=by omega
 have hV1:=h.below hb1;have HG:Hid (∀V,Below w1.heap.size w1 V→Blk V g 46 Ah):=fun V hV=>hG1.below hV hG1.lt
 have HSgA:=AA (DN hV1 3 r);have HSgB:=AA (DN hV1 4 r);have HVals:=AA (JA hV1 hsm 3 r);have HWho:Hid (∀(V:World) (pr:Vt→Bool) (g':Nat) (lb:Array Value),Below w1.heap.size w1 V→By V.heap.size V g' lb pr→Calls Tryz.prog 211 #[.pointer (some ⟨b,0,none⟩),.int .i64 3,.int .i64 r,.func (.func g') #[] lb] V fun e w'=>
   e= .returned (.int .i64 ((Bq (pW 3 r pr) O:Nat):Int))∧Below V.heap.size V w'):=fun V pr g' lb hV hF=>Nj (hV1.below hV) hO hsm 3 r pr g' lb hF
 have HEn:Hid (∀(V:World) (m:Nat),Below w1.heap.size w1 V→m<1024→Calls Tryz.prog 214 #[.pointer (some ⟨b,0,none⟩),.int .i64 (m:Int)] V fun e w'=>e= .returned (.bool (decide ((q:Int)≤((At m 10:Nat):Int))))∧Below V.heap.size V w'):=fun V m hV hm=>by
  have h:=Is (hV1.below hV) (m:Int);rwa[FT m hm]at h
 have HLo:Hid (∀(m:Nat) (V:World),m<1024→Calls Tryz.prog 209 #[.int .i64 (m:Int),.int .i64 (q:Int)] V fun e w'=>e= .returned (.int .i64 ((Fv m q:Nat):Int))∧Below V.heap.size V w'):=fun m V hm=>by
  have h:=Ke (m:Int) q hq10 V;rwa[FT m hm]at h
 have HVo:Hid (∀(V:World) (x:Vl) (sup:Int),Below w1.heap.size w1 V→Calls Tryz.prog 206 #[.pointer (some ⟨b,0,none⟩),.int .i64 4,.int .i64 r,x.val,.int .i64 sup] V (fun e w'=>e= .returned (.tuple #[(Vt.mk 4 (s:Int) r x.choice f sup p x.name).val,.bool true])∧Below V.heap.size V w')):=fun V x sup hV=>FX (hV1.below hV) 4 r x sup
 have HQ:Hid (∀V,Below w1.heap.size w1 V→V.cell? ⟨b,1,none⟩=some (.int .i64 (q:Int))):=fun V hV=>(hV1.below hV).blk.cell 1
 have HVb:Hid (∀V,Below w1.heap.size w1 V→EU V b M (q:Int) (s:Int) f p A c mo O ow):=fun V hV=>hV1.below hV
 have HLt:Hid (∀pr:Vt→Bool,Bq pr O<1024):=fun pr=>FV (fun v hv=>(hO v hv).2.1)
 have HB1:=AA hb1;have HW1:=AA hw1;have HGg:=AA hg;have hgl:g<w1.heap.size:=hG1.lt;obtain⟨d,hd⟩:∃d,d=ow 3 r:=⟨_,rfl⟩;obtain⟨d',hd'⟩:∃d,d=ow 4 r:=⟨_,rfl⟩;rw[←hd]at HSgA;rw[←hd']at HSgB;have hbx:Below w1.heap.size w1 w1:=AC _ _;clear h hO hw1 hb1 hg hG1 hV1 hq10;go_enter Tryz.func162,Tryz.ntmps162;go_upto_region 1 with fail
 simp only[←HW1.out,←HGg.out];go_wp2_with fail
 refine HSgA.out.mono ?_;rintro en w2 ⟨rfl,hw2⟩;replace hw2:=hw2.symm;subst hw2;clear HSgA;have HD0:=AA hd.symm;have HD0':=AA hd'.symm;clear hd hd';cases d with
 |false=>
  go_wp2_with (refine AJ rfl 46 (.tmp 4) (.tmp 19) rfl g Ah rfl rfl 46 Ah (HG.out _ hbx) rfl Ao (fun u hu=>CE hu) ?_;intro w9 hR9 hg9 hsz9)
  refine bodyPost_ret (Ab (g:=g) (cs:=Ah) rfl _ _ _ _ _ rfl hR9 Tryz.underlying46 rfl Ao) rfl ⟨none,rfl,.inl HD0.out,?_⟩;exact Below.grown (HB1.out) hg9 (Below.size (HB1.out)) (fun k hk=>by injection hk with hk;subst hk;exact hgw)
 |true=>
  go_wp2_with fail
  refine HSgB.out.mono ?_;rintro en w2 ⟨rfl,hw2⟩;replace hw2:=hw2.symm;subst hw2;clear HSgB;cases d' with
  |true=>
   go_wp2_with (refine AJ rfl 46 (.tmp 4) (.tmp 19) rfl g Ah rfl rfl 46 Ah (HG.out _ hbx) rfl Ao (fun u hu=>CE hu) ?_;intro w9 hR9 hg9 hsz9)
   refine bodyPost_ret (Ab (g:=g) (cs:=Ah) rfl _ _ _ _ _ rfl hR9 Tryz.underlying46 rfl Ao) rfl ⟨none,rfl,.inr (.inl HD0'.out),?_⟩;exact Below.grown (HB1.out) hg9 (Below.size (HB1.out)) (fun k hk=>by injection hk with hk;subst hk;exact hgw)
  |false=>
   have HD:=HD0;have HD':=HD0';go_wp2_with (go_at_call 210;refine HVals.out.mono ?_;rintro en w3 ⟨v3,L,rfl,hL3,hLn,hown3,hb3⟩;have hbx3:=hbx.trans hb3;obtain⟨A3,c3,rfl,hR3⟩:=BY hown3;have HR3:=AA hR3;have HL3:=AA hL3;obtain⟨nL,hnL⟩:∃nL,L.length=nL:=⟨_,rfl⟩;rw[hnL]at hLn ⊢;have HNL:=AA hnL;clear hown3 hR3 hL3 hb3 hnL)
   have hnL6:nL≤1000000:=by omega
   go_loopw [24] (fun iv wr=>∃i:Nat,iv= .int .i64 (i:Int)∧i≤nL∧Below w3.heap.size w3 wr∧∀x∈L.take i,At (Bq (pV 3 r x) O) 10<q) (fun iv _=>nL-(intOf iv).toNat)
   case atStart=>exact⟨0,rfl,Nat.zero_le _,AC _ _,fun k hk=>by simp at hk⟩
   case round=>
    obtain⟨i,rfl,hin,hbr,hno⟩:=hrel;have HNo:=AA hno;have hbxr:=hbx3.trans (hbr.mono hbx3.size);clear hno;by_cases hi:i<nL
    ·have di:decide ((i:Int)<(nL:Int))=true:=by simp;omega
     obtain⟨x,hx⟩:∃x,L[i]? =some x:=⟨_,AE (by rw[HNL.out];exact hi)⟩;obtain⟨g0,o,rfl,hb,hcell⟩:=HR3.out.cells (by intro e;have:=AX vlc 9 L (Ef L);rw[e,HNL.out]at this;simp at this;omega);clear hcell;have x1:AK wr g0 (o+i*9) 9=some x.cells:=(HR3.out.below hbr).vlRow hx;have HX:=AA hx;clear hx;go_upto_region 6 with fail
     obtain⟨w4,hw4⟩:∃w4,w4=wr.alloc (.cells x.cells 258):=⟨_,rfl⟩;rw[←hw4];have hB4:Blk w4 wr.heap.size 258 x.cells:=by rw[hw4];exact Blk.new wr _ _
     have hb4:Below w3.heap.size w3 w4:=by rw[hw4];exact hbr.alloc hbr.size _
     obtain⟨z,hz⟩:∃z,z=wr.heap.size:=⟨_,rfl⟩;rw[←hz]at hB4 ⊢;have hbx4:=hbx3.trans (hb4.mono hbx3.size);have HZ4:Hid (∀V,Below w4.heap.size w4 V→AK V z 0 9=some x.cells):=fun V hV=>(hB4.below hV hB4.lt).row 9 rfl
     have HZB:Hid (∀V,Below w4.heap.size w4 V→Blk V z 258 x.cells):=fun V hV=>hB4.below hV hB4.lt
     have hzg:z≠g:=by have:=hbxr.size;omega
     have HFit:Hid (By w4.heap.size w4 212 #[.pointer (some ⟨z,0,none⟩)] (fun v=>decide (Ew v=x))):=T1 x z w4.heap.size w4 hB4.lt hB4;have HWh:=AA (HWho.out w4 _ _ _ hbx4 HFit.out);obtain⟨m,hm⟩:∃m,m=Bq (pV 3 r x) O:=⟨_,rfl⟩;have hm10:m<1024:=by rw[hm];exact HLt.out _
     have HWh':Hid (Calls Tryz.prog 211 #[.pointer (some ⟨b,0,none⟩),.int .i64 3,.int .i64 r,.func (.func 212) #[] #[.pointer (some ⟨z,0,none⟩)]] w4 fun e w'=>e= .returned (.int .i64 (m:Int))∧Below w4.heap.size w4 w'):=by unfold Hid;rw[hm];exact HWh.out
     have HM:=AA hm;have HEn':Hid (∀V,Below w1.heap.size w1 V→Calls Tryz.prog 214 #[.pointer (some ⟨b,0,none⟩),.int .i64 (m:Int)] V fun e w'=>e= .returned (.bool (decide ((q:Int)≤((At m 10:Nat):Int))))∧Below V.heap.size V w'):=fun V hV=>HEn.out V m hV hm10
     clear hw4 hB4 x1 HWh HFit hm;clear hz;by_cases he:q≤At m 10
     ·have de:decide ((q:Int)≤((At m 10:Nat):Int))=true:=by simp;omega
      rw[de]at HEn';obtain⟨lw,hlw⟩:∃lw,lw=Fv m q:=⟨_,rfl⟩;have HLo':Hid (∀V,Calls Tryz.prog 209 #[.int .i64 (m:Int),.int .i64 (q:Int)] V fun e w'=>e= .returned (.int .i64 (lw:Int))∧Below V.heap.size V w'):=fun V=>by rw[hlw];exact HLo.out m V hm10
      obtain⟨v,hv⟩:∃v:Vt,v=Vt.mk 4 (s:Int) r x.choice f (lw:Int) p x.name:=⟨_,rfl⟩;have HVo':Hid (∀V,Below w1.heap.size w1 V→Calls Tryz.prog 206 #[.pointer (some ⟨b,0,none⟩),.int .i64 4,.int .i64 r,x.val,.int .i64 (lw:Int)] V (fun e w'=>e= .returned (.tuple #[v.val,.bool true])∧Below V.heap.size V w')):=fun V hV=>by rw[hv];exact HVo.out V x lw hV
      have HRel:Hid (DI q p s f O ow r (some v)):=⟨HD.out,HD'.out,.inl ⟨x,(HL3.out x).1 (AM HX.out),by rw[←HM.out];exact he,by rw[hv,hlw,HM.out]⟩⟩;clear hlw hv he de;go_upto_region 8 with(first
       |(go_at_call 211;refine HWh'.out.mono ?_;rintro en w5 ⟨rfl,hb5⟩;have hb35:=hb4.trans (hb5.mono hb4.size);have hbx5:=hbx3.trans (hb35.mono hbx3.size);have hb45:=hb5)
       |(go_at_call 214;refine(HEn'.out _ hbx5).mono ?_;rintro en w6 ⟨rfl,hb6⟩;have hb46:=hb45.trans (hb6.mono hb45.size);have hbx6:=hbx5.trans (hb6.mono hbx5.size)))
      have HS:Hid (∀V,Below w4.heap.size w4 V→AK V z 0 9=some x.cells∧V.cell? ⟨b,1,none⟩=some (.int .i64 (q:Int))):=fun V hV=>⟨HZ4.out V hV,HQ.out V (hbx4.trans (hV.mono hbx4.size))⟩
      have HK9:Hid (∀V V',Below w4.heap.size w4 V→V.grownBy V' (some g)→AK V' z 0 9=some x.cells∧V'.cell? ⟨b,1,none⟩=some (.int .i64 (q:Int))):=fun V V' hV hg=>by
       have hv:=HVb.out V (hbx4.trans (hV.mono hbx4.size));have hbg:b≠g:=by intro e;have h1:=hv.blk;have h2:=HG.out V (hbx4.trans (hV.mono hbx4.size));rw[e]at h1;exact absurd (Cd h1 h2) (by decide)
       exact⟨((HZB.out V hV).kept hg (by intro e;injection e with e;exact hzg e)).row 9 rfl,(hv.blk.kept hg (by intro e;injection e with e;exact hbg e)).cell 1⟩
      refine rgD (fun V=>AK V z 0 9=some x.cells∧V.cell? ⟨b,1,none⟩=some (.int .i64 (q:Int))) (HS.out _ hb46.drew) fun hHeld=>?_
      refine tkD 35 0 ?_;go_frame;refine tkD 36 1 ?_;go_frame;refine tkD 37 2 ?_;go_frame;refine tkD 38 3 ?_;go_frame;refine tkD 39 4 ?_;go_frame;refine tkD 40 5 ?_;go_frame;refine tkD 41 6 ?_;go_frame;refine tkD 42 7 ?_;go_frame;refine rd1 8 fun K hK=>?_
      go_simp;refine(HLo'.out _).mono ?_;rintro en w7 ⟨rfl,hb7⟩;have hb47:=hb46.drew.trans (hb7.mono hb46.size);go_wp2_with fail
      refine hK.out _ _ (HS.out _ hb47) (fun hHeld=>?_);clear hK K;try go_frame
      refine rd1 9 fun K hK=>?_
      go_simp;refine(HVo'.out _ (hbx4.trans (hb47.mono hbx4.size))).mono ?_;rintro en w8 ⟨rfl,hb8⟩;have hb48:=hb47.trans (hb8.mono hb47.size);have hbx8:=hbx4.trans (hb48.mono hbx4.size);go_wp2_with fail
      refine hK.out _ _ (HS.out _ hb48) (fun hHeld=>?_);clear hK K;try go_frame
      refine tkD 45 10 ?_;go_frame;refine tkD 46 11 ?_;go_frame;refine rd1 12 fun K hK=>?_
      rw[if_pos (by rfl)];refine BQ 46 (.tmp 4) (.tmp 45) (by rfl) g v.cells (by rfl) (by rfl) 46 Ah (HG.out _ hbx8) (by rfl) Ao (fun u hu=>BM _ hu) (by rfl) ?_;intro w9 hR9 hg9 hsz9;refine hK.out _ _ (HK9.out _ _ hb48 hg9) (fun hHeld=>?_);clear hK K;try go_frame
      refine tkD 5 13 ?_;go_frame;refine dnD ?_;go_wp2_with fail
      have hb08:=HB1.out.trans (hbx8.mono HB1.out.size);refine bodyPost_ret (Ab (g:=g) (cs:=(v).cells) rfl _ _ _ _ _ rfl hR9 Tryz.underlying46 rfl Ao) rfl ⟨some (v),rfl,HRel.out,?_⟩;exact Below.grown (hb08) hg9 (Below.size (hb08)) (fun k hk=>by injection hk with hk;subst hk;exact hgw)
     ·have de:decide ((q:Int)≤((At m 10:Nat):Int))=false:=by simp;omega
      rw[de]at HEn';have HE:Hid (At (Bq (pV 3 r x) O) 10<q):=by unfold Hid;rw[←HM.out];omega
      clear de he;go_wp2_with (first
       |(go_at_call 211;refine HWh'.out.mono ?_;rintro en w5 ⟨rfl,hb5⟩;have hb35:=hb4.trans (hb5.mono hb4.size);have hbx5:=hbx3.trans (hb35.mono hbx3.size))
       |(go_at_call 214;refine(HEn'.out _ hbx5).mono ?_;rintro en w6 ⟨rfl,hb6⟩;have hb36:=hb35.trans (hb6.mono hb35.size)))
      go_roundw
      case rel=>
       refine⟨i+1,by go_num,by omega,hb36,fun k hk=>?_⟩;rw[Ag,HX.out,BE]at hk;rcases AP.1 hk with hk|hk
       ·exact HNo.out k hk
       ·rw[AR.1 hk];exact HE.out
      case measure=>simp[intOf];omega
    ·have di:decide ((i:Int)<(nL:Int))=false:=by simp;omega
     have hall:∀x,Cn 3 r O x→At (Bq (pV 3 r x) O) 10<q:=by
      have h:=HNo.out;rw[AT (by rw[HNL.out];omega)]at h;exact fun x hx=>h x ((HL3.out x).2 hx)
     have HAll:=AA hall;have HWh:=AA (HWho.out wr _ _ _ hbxr (T3 wr.heap.size wr));obtain⟨m,hm⟩:∃m,m=Bq (pA 3 r) O:=⟨_,rfl⟩;have hm10:m<1024:=by rw[hm];exact HLt.out _
     have HWh':Hid (Calls Tryz.prog 211 #[.pointer (some ⟨b,0,none⟩),.int .i64 3,.int .i64 r,.func (.func 215) #[] #[]] wr fun e w'=>e= .returned (.int .i64 (m:Int))∧Below wr.heap.size wr w'):=by unfold Hid;rw[hm];exact HWh.out
     have HM:=AA hm;have HEn':Hid (∀V,Below w1.heap.size w1 V→Calls Tryz.prog 214 #[.pointer (some ⟨b,0,none⟩),.int .i64 (m:Int)] V fun e w'=>e= .returned (.bool (decide ((q:Int)≤((At m 10:Nat):Int))))∧Below V.heap.size V w'):=fun V hV=>HEn.out V m hV hm10
     clear hall HWh hm;by_cases he:q≤At m 10
     ·have de:decide ((q:Int)≤((At m 10:Nat):Int))=true:=by simp;omega
      rw[de]at HEn';obtain⟨lw,hlw⟩:∃lw,lw=Fv m q:=⟨_,rfl⟩;have HLo':Hid (∀V,Calls Tryz.prog 209 #[.int .i64 (m:Int),.int .i64 (q:Int)] V fun e w'=>e= .returned (.int .i64 (lw:Int))∧Below V.heap.size V w'):=fun V=>by rw[hlw];exact HLo.out m V hm10
      obtain⟨v,hv⟩:∃v:Vt,v=Vt.mk 4 (s:Int) r 2 f (lw:Int) p Nm.zero:=⟨_,rfl⟩;have HVo':Hid (∀V,Below w1.heap.size w1 V→Calls Tryz.prog 206 #[.pointer (some ⟨b,0,none⟩),.int .i64 4,.int .i64 r,(Vl.mk 2 Nm.zero).val,.int .i64 (lw:Int)] V (fun e w'=>e= .returned (.tuple #[v.val,.bool true])∧Below V.heap.size V w')):=fun V hV=>by rw[hv];exact HVo.out V (Vl.mk 2 Nm.zero) lw hV
      have HRel:Hid (DI q p s f O ow r (some v)):=⟨HD.out,HD'.out,.inr ⟨HAll.out,by rw[←HM.out];exact he,by rw[hv,hlw,HM.out]⟩⟩;have y1:∀V,Below w1.heap.size w1 V→V.cell? ⟨b,1,none⟩=some (.int .i64 (q:Int)):=HQ.out;have HY:=AA y1;clear hlw hv he de y1;go_wp2_with (first
       |(go_at_call 211;refine HWh'.out.mono ?_;rintro en w5 ⟨rfl,hb5⟩;have hbx5:=hbxr.trans (hb5.mono hbxr.size))
       |(go_at_call 214;refine(HEn'.out _ hbx5).mono ?_;rintro en w6 ⟨rfl,hb6⟩;have hbx6:=hbx5.trans (hb6.mono hbx5.size);have y6:=HY.out _ hbx6)
       |(go_at_call 209;refine(HLo'.out _).mono ?_;rintro en w7 ⟨rfl,hb7⟩;have hbx7:=hbx6.trans (hb7.mono hbx6.size))
       |(go_at_call 206;refine(HVo'.out _ hbx7).mono ?_;rintro en w8 ⟨rfl,hb8⟩;have hbx8:=hbx7.trans (hb8.mono hbx7.size))
       |(refine AJ rfl 46 (.tmp 4) (.tmp 64) rfl g (v).cells rfl rfl 46 Ah (HG.out _ hbx8) rfl Ao (fun u hu=>BM _ hu) ?_;intro w9 hR9 hg9 hsz9))
      have hb08:=HB1.out.trans (hbx8.mono HB1.out.size);refine bodyPost_ret (Ab (g:=g) (cs:=(v).cells) rfl _ _ _ _ _ rfl hR9 Tryz.underlying46 rfl Ao) rfl ⟨some (v),rfl,HRel.out,?_⟩;exact Below.grown (hb08) hg9 (Below.size (hb08)) (fun k hk=>by injection hk with hk;subst hk;exact hgw)
     ·have de:decide ((q:Int)≤((At m 10:Nat):Int))=false:=by simp;omega
      rw[de]at HEn';have HE:Hid (At (Bq (pA 3 r) O) 10<q):=by unfold Hid;rw[←HM.out];omega
      clear de he;go_wp2_with (first
       |(go_at_call 211;refine HWh'.out.mono ?_;rintro en w5 ⟨rfl,hb5⟩;have hbx5:=hbxr.trans (hb5.mono hbxr.size))
       |(go_at_call 214;refine(HEn'.out _ hbx5).mono ?_;rintro en w6 ⟨rfl,hb6⟩;have hbx6:=hbx5.trans (hb6.mono hbx5.size);have hb06:=HB1.out.trans (hbx6.mono HB1.out.size))
       |(refine AJ rfl 46 (.tmp 4) (.tmp 66) rfl g Ah rfl rfl 46 Ah (HG.out _ hbx6) rfl Ao (fun u hu=>CE hu) ?_;intro w9 hR9 hg9 hsz9))
      refine bodyPost_ret (Ab (g:=g) (cs:=Ah) rfl _ _ _ _ _ rfl hR9 Tryz.underlying46 rfl Ao) rfl ⟨none,rfl,.inr (.inr ⟨HAll.out,HE.out⟩),?_⟩;exact hb06.grown hg9 hb06.size (fun k hk=>by injection hk with hk;subst hk;exact hgw)
def QY:Option Vl→Array Value
 |none=>CS
 |some v=>v.cells
theorem Rr{u:Value}(h:u∈CS.toList):u.oneCell'=true:=EF Vl.zero h
theorem Lp{w:World}{b:Nat}{M f q s:Int}{p:Nm}{A:Option Addr}{c mo:Nat}{O:List Vt}{ow:Int→Int→Bool}(h:EU w b M q s f p A c mo O ow)(hsm:O.length≤1000000)(r:Nat)(hr:r≤12):Calls Tryz.prog 218 #[.pointer (some ⟨b,0,none⟩),.int .i64 (r:Int)] w fun e w'=>∃o:Option Vl,e= .returned (.tuple #[.agg (QY o),.bool o.isSome])∧(∀x,o=some x→Cn 3 r O x)∧Below w.heap.size w w':=by
 obtain⟨w1,hw1⟩:∃w1,w1=w.alloc (.cells CS 258):=⟨_,rfl⟩;have hb1:Below w.heap.size w w1:=by rw[hw1];exact(AC _ _).alloc (AB _) _
 obtain⟨g,hg⟩:∃g,g=w.heap.size:=⟨_,rfl⟩;have hG1:Blk w1 g 258 CS:=by rw[hw1,hg];exact Blk.new w _ _
 have hgw:w.heap.size≤g:=by omega
 have HG:Hid (∀V,Below w1.heap.size w1 V→Blk V g 258 CS):=fun V hV=>hG1.below hV hG1.lt
 have HVals:=AA (JA (h.below hb1) hsm 3 (r:Int));have hwr:IntKind.i64.wrap ((r:Int)+1)=(r:Int)+1:=by rw[IntKind.wrap_i64];omega
 have HB1:=AA hb1;have HW1:=AA hw1;have HGg:=AA hg;have hbx:Below w1.heap.size w1 w1:=AC _ _;clear h hw1 hb1 hg hG1;go_enter Tryz.func218,Tryz.ntmps218;go_upto_region 1 with fail
 simp only[←HW1.out,←HGg.out];go_upto_region 2 with(go_at_call 210;refine HVals.out.mono ?_;rintro en w3 ⟨v3,L,rfl,hL3,hLn,hown3,hb3⟩;have hbx3:=hbx.trans hb3;obtain⟨A3,c3,rfl,hR3⟩:=BY hown3;have HR3:=AA hR3;have HL3:=AA hL3;obtain⟨nL,hnL⟩:∃nL,L.length=nL:=⟨_,rfl⟩;rw[hnL]at hLn ⊢;have HNL:=AA hnL;clear hown3 hR3 hL3 hb3 hnL)
 have hnL6:nL≤1000000:=by omega
 have hb03:=HB1.out.trans (hbx3.mono HB1.out.size);rcases Nat.eq_zero_or_pos nL with h0|h0
 ·subst h0;go_wp2_with (refine AJ rfl 258 (.tmp 4) (.tmp 13) rfl g CS rfl rfl 258 CS (HG.out _ hbx3) rfl CL (fun u hu=>Rr hu) ?_;intro w9 hR9 hg9 hsz9)
  refine bodyPost_ret (Ab (g:=g) (cs:=CS) rfl _ _ _ _ _ rfl hR9 Tryz.underlying258 rfl CL) rfl ⟨none,rfl,fun x hx=>(by cases hx),?_⟩;exact hb03.grown hg9 hb03.size (fun k hk=>by injection hk with hk;subst hk;exact hgw)
 ·have n0:((nL:Int)==0)=false:=by simp;omega
  have HX:Hid (∀k,k<nL→∃x,L[k]? =some x∧Cn 3 r O x):=fun k hk=>⟨_,AE (by rw[HNL.out];exact hk),(HL3.out _).1 (List.getElem_mem _)⟩
  obtain⟨x,hx,hxv⟩:=HX.out 0 h0;obtain⟨g0,o,rfl,hb,hcell⟩:=HR3.out.cells (by intro e;have:=AX vlc 9 L (Ef L);rw[e,HNL.out]at this;simp at this;omega);have x0:w3.cell? ⟨g0,o,none⟩=some (.int .i64 x.choice):=by
   have:=(Cl (HR3.out.vlRow hx)).2 0 (.int .i64 x.choice) rfl;rwa[Nat.zero_mul,Nat.add_zero]at this
  have x1:AK w3 g0 o 9=some x.cells:=by have:=HR3.out.vlRow hx;rwa[Nat.zero_mul,Nat.add_zero]at this
  have hn0:(0:Int)<(nL:Int):=by omega
  have HXv:=AA hxv;clear hcell hx hxv;obtain⟨d2,hd2⟩:∃d,d=(x.choice==0):=⟨_,rfl⟩;have e2:=hd2.symm;clear hd2;by_cases h2:1<nL
  ·have d3:decide ((1:Int)<(nL:Int))=true:=by simp;omega
   have hn1:(1:Int)<(nL:Int):=by omega
   obtain⟨y,hy,hyv⟩:=HX.out 1 h2;have y1:AK w3 g0 (o+9) 9=some y.cells:=by have:=HR3.out.vlRow hy;rwa[Nat.one_mul]at this
   have HYv:=AA hyv;clear hy hyv;by_cases hp:((r:Int)+1)%2=1
   rotate_left
   ·have e1:(((r:Int)+1)%2==1)=false:=by simpa using hp
    go_wp2_with (refine AJ rfl 258 (.tmp 4) (.tmp 35) rfl g x.cells rfl rfl 258 CS (HG.out _ hbx3) rfl CL (fun u hu=>EF _ hu) ?_;intro w9 hR9 hg9 hsz9)
    refine bodyPost_ret (Ab (g:=g) (cs:=x.cells) rfl _ _ _ _ _ rfl hR9 Tryz.underlying258 rfl CL) rfl ⟨some x,rfl,fun x hx=>by injection hx with hx;subst hx;exact HXv.out,?_⟩;exact hb03.grown hg9 hb03.size (fun k hk=>by injection hk with hk;subst hk;exact hgw)
   ·have e1:(((r:Int)+1)%2==1)=true:=by simpa using hp
    cases d2 with
    |false=>
     go_wp2_with (refine AJ rfl 258 (.tmp 4) (.tmp 35) rfl g x.cells rfl rfl 258 CS (HG.out _ hbx3) rfl CL (fun u hu=>EF _ hu) ?_;intro w9 hR9 hg9 hsz9)
     refine bodyPost_ret (Ab (g:=g) (cs:=x.cells) rfl _ _ _ _ _ rfl hR9 Tryz.underlying258 rfl CL) rfl ⟨some x,rfl,fun x hx=>by injection hx with hx;subst hx;exact HXv.out,?_⟩;exact hb03.grown hg9 hb03.size (fun k hk=>by injection hk with hk;subst hk;exact hgw)
    |true=>
     go_wp2_with (refine AJ rfl 258 (.tmp 4) (.tmp 32) rfl g y.cells rfl rfl 258 CS (HG.out _ hbx3) rfl CL (fun u hu=>EF _ hu) ?_;intro w9 hR9 hg9 hsz9)
     refine bodyPost_ret (Ab (g:=g) (cs:=y.cells) rfl _ _ _ _ _ rfl hR9 Tryz.underlying258 rfl CL) rfl ⟨some y,rfl,fun x hx=>by injection hx with hx;subst hx;exact HYv.out,?_⟩;exact hb03.grown hg9 hb03.size (fun k hk=>by injection hk with hk;subst hk;exact hgw)
  ·have d3:decide ((1:Int)<(nL:Int))=false:=by simp;omega
   by_cases hp:((r:Int)+1)%2=1
   rotate_left
   ·have e1:(((r:Int)+1)%2==1)=false:=by simpa using hp
    go_wp2_with (refine AJ rfl 258 (.tmp 4) (.tmp 35) rfl g x.cells rfl rfl 258 CS (HG.out _ hbx3) rfl CL (fun u hu=>EF _ hu) ?_;intro w9 hR9 hg9 hsz9)
    refine bodyPost_ret (Ab (g:=g) (cs:=x.cells) rfl _ _ _ _ _ rfl hR9 Tryz.underlying258 rfl CL) rfl ⟨some x,rfl,fun x hx=>by injection hx with hx;subst hx;exact HXv.out,?_⟩;exact hb03.grown hg9 hb03.size (fun k hk=>by injection hk with hk;subst hk;exact hgw)
   ·have e1:(((r:Int)+1)%2==1)=true:=by simpa using hp
    cases d2 with
    |false=>
     go_wp2_with (refine AJ rfl 258 (.tmp 4) (.tmp 35) rfl g x.cells rfl rfl 258 CS (HG.out _ hbx3) rfl CL (fun u hu=>EF _ hu) ?_;intro w9 hR9 hg9 hsz9)
     refine bodyPost_ret (Ab (g:=g) (cs:=x.cells) rfl _ _ _ _ _ rfl hR9 Tryz.underlying258 rfl CL) rfl ⟨some x,rfl,fun x hx=>by injection hx with hx;subst hx;exact HXv.out,?_⟩;exact hb03.grown hg9 hb03.size (fun k hk=>by injection hk with hk;subst hk;exact hgw)
    |true=>
     go_wp2_with (refine AJ rfl 258 (.tmp 4) (.tmp 35) rfl g x.cells rfl rfl 258 CS (HG.out _ hbx3) rfl CL (fun u hu=>EF _ hu) ?_;intro w9 hR9 hg9 hsz9)
     refine bodyPost_ret (Ab (g:=g) (cs:=x.cells) rfl _ _ _ _ _ rfl hR9 Tryz.underlying258 rfl CL) rfl ⟨some x,rfl,fun x hx=>by injection hx with hx;subst hx;exact HXv.out,?_⟩;exact hb03.grown hg9 hb03.size (fun k hk=>by injection hk with hk;subst hk;exact hgw)
end
end Go.Proofs.YtadllffeoibelaaGreat
