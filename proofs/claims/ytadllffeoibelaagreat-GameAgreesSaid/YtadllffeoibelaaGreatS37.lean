/-
  What these parts of the proof come to, functions walked and plain laws: Vprev. No condition.
-/
import Derived.Test.YtadllffeoibelaaGreatS36
import Derived.Test.YtadllffeoibelaaGreatS35
import Derived.Test.YtadllffeoibelaaGreatS6
namespace Go.Proofs.YtadllffeoibelaaGreat
set_option maxRecDepth 100000
set_option maxHeartbeats 32000000
set_option linter.all false
section
open Go.RowKit Go.Shelf
attribute [local go_sem ↓] Go.wp_at_zero Go.wp_at_succ An Au Av Aw DK
attribute [local go_sem] BD BH BI BJ EO AN AW AQ
theorem Nq{o:Oper}{a:Act}(x y:Operand)(m n:Nat)(ho:o.op= .binOp .or 22 x y 22)(hx:a.eval x= .int .i64 (m:Int))(hy:a.eval y= .int .i64 (n:Int))(hm:m<1024)(hn:n<1024)(w:World):(execOp a.eval o).run Tryz.prog w= .ok (.value (.int .i64 ((m|||n:Nat):Int))) w:=by
 have h:=KM m n (by omega) (by omega);obtain⟨z2,hz2⟩:∃z:Int,z=((m|||n:Nat):Int):=⟨_,rfl⟩;rw[←hz2]at h ⊢;unfold execOp;rw[ho];simp only[hx,hy];clear hz2;go_simp
theorem Rs{o:Oper}{a:Act}(x y:Operand)(m n z:Int)(ho:o.op= .binOp .andNot 22 x y 22)(hx:a.eval x= .int .i64 m)(hy:a.eval y= .int .i64 n)(hz:z=bits .andNot .i64 m n)(w:World):(execOp a.eval o).run Tryz.prog w= .ok (.value (.int .i64 z)) w:=by
 have h:=hz.symm;unfold execOp;rw[ho];simp only[hx,hy];clear hz;go_simp
theorem Lq{w:World}{b:Nat}{M f:Int}{q s:Nat}{p:Nm}{A:Option Addr}{c mo:Nat}{O:List Vt}{ow:Int→Int→Bool}(h:EU w b M (q:Int) (s:Int) f p A c mo O ow)(hq1:1≤q)(hq10:q≤10)(hO:∀v∈O,Ae v)(hsm:O.length≤1000000)(r:Nat)(hr:r≤12):Calls Tryz.prog 163 #[.pointer (some ⟨b,0,none⟩),.int .i64 (r:Int)] w (Cv (JB p s f O ow (r:Int)) w):=by
 obtain⟨w1,hw1⟩:∃w1,w1=w.alloc (.cells Ah 46):=⟨_,rfl⟩;have hb1:Below w.heap.size w w1:=by rw[hw1];exact(AC _ _).alloc (AB _) _
 obtain⟨g,hg⟩:∃g,g=w.heap.size:=⟨_,rfl⟩;have hG1:Blk w1 g 46 Ah:=by rw[hw1,hg];exact Blk.new w _ _
 have hgw:w.heap.size≤g:=by omega
 have hV1:=h.below hb1;have HG:Hid (∀V,Below w1.heap.size w1 V→Blk V g 46 Ah):=fun V hV=>hG1.below hV hG1.lt
 have hwr:IntKind.i64.wrap ((r:Int)+1)=(r:Int)+1:=by rw[IntKind.wrap_i64];omega
 have hwq:IntKind.i64.wrap ((q:Int)-1)=((q-1:Nat):Int):=by rw[IntKind.wrap_i64];omega
 have HSgA:=AA (DN hV1 4 (r:Int));have HSgB:=AA (DN hV1 3 ((r:Int)+1));have HVals:=AA (fun V (hV:Below w1.heap.size w1 V)=>JA (hV1.below hV) hsm 4 (r:Int));have HCar:=AA (fun V (hV:Below w1.heap.size w1 V)=>Lp (hV1.below hV) hsm r hr);have HWho:Hid (∀(V:World) (pr:Vt→Bool) (g':Nat) (lb:Array Value),Below w1.heap.size w1 V→By V.heap.size V g' lb pr→Calls Tryz.prog 211 #[.pointer (some ⟨b,0,none⟩),.int .i64 4,.int .i64 (r:Int),.func (.func g') #[] lb] V fun e w'=>
   e= .returned (.int .i64 ((Bq (pW 4 r pr) O:Nat):Int))∧Below V.heap.size V w'):=fun V pr g' lb hV hF=>Nj (hV1.below hV) hO hsm 4 r pr g' lb hF
 have HEn:Hid (∀(V:World) (m:Nat),Below w1.heap.size w1 V→Calls Tryz.prog 214 #[.pointer (some ⟨b,0,none⟩),.int .i64 (m:Int)] V fun e w'=>∃d,e= .returned (.bool d)∧Below V.heap.size V w'):=fun V m hV=>(Is (hV1.below hV) (m:Int)).mono fun e w' h=>⟨_,h⟩
 have HLo:Hid (∀(X:Int) (k:Nat) (V:World),k≤10→Calls Tryz.prog 209 #[.int .i64 X,.int .i64 (k:Int)] V fun e w'=>∃lw:Nat,lw<1024∧e= .returned (.int .i64 (lw:Int))∧Below V.heap.size V w'):=fun X k V hk=>(Ke X k hk V).mono fun e w' h=>⟨_,NW _ _,h⟩
 have HVo:Hid (∀(V:World) (x:Vl) (sup:Int),Below w1.heap.size w1 V→Calls Tryz.prog 206 #[.pointer (some ⟨b,0,none⟩),.int .i64 3,.int .i64 ((r:Int)+1),x.val,.int .i64 sup] V (fun e w'=>e= .returned (.tuple #[(Vt.mk 3 (s:Int) ((r:Int)+1) x.choice f sup p x.name).val,.bool true])∧Below V.heap.size V w')):=fun V x sup hV=>FX (hV1.below hV) 3 _ x sup
 have HQ:Hid (∀V,Below w1.heap.size w1 V→V.cell? ⟨b,1,none⟩=some (.int .i64 (q:Int))):=fun V hV=>(hV1.below hV).blk.cell 1
 have HVb:Hid (∀V,Below w1.heap.size w1 V→EU V b M (q:Int) (s:Int) f p A c mo O ow):=fun V hV=>hV1.below hV
 have HLt:Hid (∀pr:Vt→Bool,Bq pr O<1024):=fun pr=>FV (fun v hv=>(hO v hv).2.1)
 have HB1:=AA hb1;have HW1:=AA hw1;have HGg:=AA hg;have hgl:g<w1.heap.size:=hG1.lt;obtain⟨d,hd⟩:∃d,d=ow 4 (r:Int):=⟨_,rfl⟩;obtain⟨d',hd'⟩:∃d,d=ow 3 ((r:Int)+1):=⟨_,rfl⟩;rw[←hd]at HSgA;rw[←hd']at HSgB;have hbx:Below w1.heap.size w1 w1:=AC _ _;clear h hO hw1 hb1 hg hG1 hV1;go_enter Tryz.func163,Tryz.ntmps163;go_upto_region 1 with fail
 simp only[←HW1.out,←HGg.out];go_wp2_with fail
 refine HSgA.out.mono ?_;rintro en w2 ⟨rfl,hw2⟩;replace hw2:=hw2.symm;subst hw2;clear HSgA;have HD0:=AA hd.symm;have HD0':=AA hd'.symm;clear hd hd';cases d with
 |false=>
  go_wp2_with (refine AJ rfl 46 (.tmp 4) (.tmp 23) rfl g Ah rfl rfl 46 Ah (HG.out _ hbx) rfl Ao (fun u hu=>CE hu) ?_;intro w9 hR9 hg9 hsz9)
  refine bodyPost_ret (Ab (g:=g) (cs:=Ah) rfl _ _ _ _ _ rfl hR9 Tryz.underlying46 rfl Ao) rfl ⟨none,rfl,trivial,?_⟩;exact Below.grown (HB1.out) hg9 (Below.size (HB1.out)) (fun k hk=>by injection hk with hk;subst hk;exact hgw)
 |true=>
  go_wp2_with fail
  refine HSgB.out.mono ?_;rintro en w2 ⟨rfl,hw2⟩;replace hw2:=hw2.symm;subst hw2;clear HSgB;cases d' with
  |true=>
   go_wp2_with (refine AJ rfl 46 (.tmp 4) (.tmp 23) rfl g Ah rfl rfl 46 Ah (HG.out _ hbx) rfl Ao (fun u hu=>CE hu) ?_;intro w9 hR9 hg9 hsz9)
   refine bodyPost_ret (Ab (g:=g) (cs:=Ah) rfl _ _ _ _ _ rfl hR9 Tryz.underlying46 rfl Ao) rfl ⟨none,rfl,trivial,?_⟩;exact Below.grown (HB1.out) hg9 (Below.size (HB1.out)) (fun k hk=>by injection hk with hk;subst hk;exact hgw)
  |false=>
   have HD:=HD0;have HD':=HD0';have HRel:Hid (∀(x:Vl) (m:Nat) (v:Vt),(Cn 4 (r:Int) O x∨Cn 3 (r:Int) O x)→m<1024→v=Vt.mk 3 (s:Int) ((r:Int)+1) x.choice f (m:Int) p x.name→JB p s f O ow (r:Int) (some v)):=fun x m v h1 h2 h3=>⟨HD.out,HD'.out,x,m,h1,h2,h3⟩
   have HWm:=AA (HWho.out w1 _ _ _ hbx (T5 w1.heap.size w1));obtain⟨mx,hmx⟩:∃m,m=Bq (pM 4 (r:Int)) O:=⟨_,rfl⟩;have hmx10:mx<1024:=by rw[hmx];exact HLt.out _
   have HWm':Hid (Calls Tryz.prog 211 #[.pointer (some ⟨b,0,none⟩),.int .i64 4,.int .i64 (r:Int),.func (.func 216) #[] #[]] w1 fun e w'=>e= .returned (.int .i64 (mx:Int))∧Below w1.heap.size w1 w'):=by unfold Hid;rw[hmx];exact HWm.out
   clear HWm hmx;go_wp2_with (first
    |(go_at_call 211;refine HWm'.out.mono ?_;rintro en wm ⟨rfl,hbm⟩;have hbxm:=hbx.trans hbm;have HVals':=AA (HVals.out _ hbxm))
    |(go_at_call 210;refine HVals'.out.mono ?_;rintro en w3 ⟨v3,L,rfl,hL3,hLn,hown3,hb3⟩;have hbx3:=hbxm.trans (hb3.mono hbxm.size);obtain⟨A3,c3,rfl,hR3⟩:=BY hown3;have HR3:=AA hR3;have HL3:=AA hL3;obtain⟨nL,hnL⟩:∃nL,L.length=nL:=⟨_,rfl⟩;rw[hnL]at hLn ⊢;have HNL:=AA hnL;clear hown3 hR3 hL3 hb3 hnL))
   have hnL6:nL≤1000000:=by omega
   clear HWm' HVals'
   go_loopw [31] (fun iv wr=>∃i:Nat,iv= .int .i64 (i:Int)∧i≤nL∧Below w3.heap.size w3 wr) (fun iv _=>nL-(intOf iv).toNat)
   case atStart=>exact⟨0,rfl,Nat.zero_le _,AC _ _⟩
   case round=>
    obtain⟨i,rfl,hin,hbr⟩:=hrel;have hbxr:=hbx3.trans (hbr.mono hbx3.size);by_cases hi:i<nL
    ·have di:decide ((i:Int)<(nL:Int))=true:=by simp;omega
     obtain⟨x,hx⟩:∃x,L[i]? =some x:=⟨_,AE (by rw[HNL.out];exact hi)⟩;obtain⟨g0,o,rfl,hb,hcell⟩:=HR3.out.cells (by intro e;have:=AX vlc 9 L (Ef L);rw[e,HNL.out]at this;simp at this;omega);clear hcell;have x1:AK wr g0 (o+i*9) 9=some x.cells:=(HR3.out.below hbr).vlRow hx;have HX:Hid (Cn 4 (r:Int) O x):=(HL3.out x).1 (AM hx);clear hx;go_upto_region 7 with fail
     obtain⟨w4,hw4⟩:∃w4,w4=wr.alloc (.cells x.cells 258):=⟨_,rfl⟩;rw[←hw4];have hB4:Blk w4 wr.heap.size 258 x.cells:=by rw[hw4];exact Blk.new wr _ _
     have hb4:Below w3.heap.size w3 w4:=by rw[hw4];exact hbr.alloc hbr.size _
     obtain⟨z,hz⟩:∃z,z=wr.heap.size:=⟨_,rfl⟩;rw[←hz]at hB4 ⊢;have hbx4:=hbx3.trans (hb4.mono hbx3.size);have HZB:Hid (∀V,Below w4.heap.size w4 V→Blk V z 258 x.cells):=fun V hV=>hB4.below hV hB4.lt
     have hzg:z≠g:=by have:=hbxr.size;omega
     have HFit:Hid (By w4.heap.size w4 217 #[.pointer (some ⟨z,0,none⟩)] (fun v=>decide (Ew v=x))):=T2 x z w4.heap.size w4 hB4.lt hB4;have HWh:=AA (HWho.out w4 _ _ _ hbx4 HFit.out);obtain⟨m,hm⟩:∃m,m=Bq (pV 4 (r:Int) x) O:=⟨_,rfl⟩;have hm10:m<1024:=by rw[hm];exact HLt.out _
     have HWh':Hid (Calls Tryz.prog 211 #[.pointer (some ⟨b,0,none⟩),.int .i64 4,.int .i64 (r:Int),.func (.func 217) #[] #[.pointer (some ⟨z,0,none⟩)]] w4 fun e w'=>e= .returned (.int .i64 (m:Int))∧Below w4.heap.size w4 w'):=by unfold Hid;rw[hm];exact HWh.out
     obtain⟨mm,hmm⟩:∃mm,mm=m|||mx:=⟨_,rfl⟩;have hmm10:mm<1024:=by rw[hmm];exact Nat.or_lt_two_pow (n:=10) hm10 hmx10
     have hor:bits .or .i64 (m:Int) (mx:Int)=(mm:Int):=by rw[hmm];exact KM m mx (by omega) (by omega)
     have HMm:=AA hmm;clear hw4 hB4 x1 HWh HFit hm hmm;clear hz;go_wp2_with (first
      |(go_at_call 211;refine HWh'.out.mono ?_;rintro en w5 ⟨rfl,hb5⟩;have hb45:=hb5;have hbx5:=hbx4.trans (hb5.mono hbx4.size);have HEn':=AA (HEn.out w5 mm hbx5))
      |(go_at_call 214;refine HEn'.out.mono ?_;rintro en w6 ⟨d6,rfl,hb6⟩;have hb46:=hb45.trans (hb6.mono hb45.size);have hbx6:=hbx4.trans (hb46.mono hbx4.size);cases d6)
      |fail)
     ·have hb36:=hb4.trans (hb46.mono hb4.size);go_wp2;go_roundw
      case rel=>exact⟨i+1,by go_num,by omega,hb36⟩
      case measure=>simp[intOf];omega
     ·have HLo1:Hid (∀V,Calls Tryz.prog 209 #[.int .i64 (m:Int),.int .i64 1] V fun e w'=>∃lw:Nat,lw<1024∧e= .returned (.int .i64 (lw:Int))∧Below V.heap.size V w'):=fun V=>HLo.out (m:Int) 1 V (by omega)
      go_upto_region 10 with(go_at_call 209;refine(HLo1.out _).mono ?_;rintro en w7 ⟨on,hon,rfl,hb7⟩;have hb47:=hb46.trans (hb7.mono hb46.size);have hbx7:=hbx4.trans (hb47.mono hbx4.size))
      obtain⟨X,hX⟩:∃X,X=bits .andNot .i64 (mm:Int) (on:Int):=⟨_,rfl⟩;have HXe:=AA hX;have HLo2:Hid (∀V,Calls Tryz.prog 209 #[.int .i64 X,.int .i64 ((q-1:Nat):Int)] V fun e w'=>∃lw:Nat,lw<1024∧e= .returned (.int .i64 (lw:Int))∧Below V.heap.size V w'):=fun V=>HLo.out X (q-1) V (by omega)
      have HVo':Hid (∀(V:World) (lw:Nat),Below w1.heap.size w1 V→Calls Tryz.prog 206 #[.pointer (some ⟨b,0,none⟩),.int .i64 3,.int .i64 ((r:Int)+1),x.val,.int .i64 (lw:Int)] V (fun e w'=>∃v:Vt,v=Vt.mk 3 (s:Int) ((r:Int)+1) x.choice f (lw:Int) p x.name∧e= .returned (.tuple #[v.val,.bool true])∧Below V.heap.size V w')):=fun V lw hV=>(HVo.out V x lw hV).mono fun e w' h=>⟨_,rfl,h⟩
      have HS:Hid (∀V,Below w4.heap.size w4 V→AK V z 0 9=some x.cells∧V.cell? ⟨b,1,none⟩=some (.int .i64 (q:Int))):=fun V hV=>⟨(HZB.out V hV).row 9 rfl,HQ.out V (hbx4.trans (hV.mono hbx4.size))⟩
      have HK9:Hid (∀V V',Below w4.heap.size w4 V→V.grownBy V' (some g)→AK V' z 0 9=some x.cells∧V'.cell? ⟨b,1,none⟩=some (.int .i64 (q:Int))):=fun V V' hV hg=>by
       have hv:=HVb.out V (hbx4.trans (hV.mono hbx4.size));have hbg:b≠g:=by intro e;have h1:=hv.blk;have h2:=HG.out V (hbx4.trans (hV.mono hbx4.size));rw[e]at h1;exact absurd (Cd h1 h2) (by decide)
       exact⟨((HZB.out V hV).kept hg (by intro e;injection e with e;exact hzg e)).row 9 rfl,(hv.blk.kept hg (by intro e;injection e with e;exact hbg e)).cell 1⟩
      clear hX;refine rgD (fun V=>AK V z 0 9=some x.cells∧V.cell? ⟨b,1,none⟩=some (.int .i64 (q:Int))) (HS.out _ hb47.drew) fun hHeld=>?_
      refine tkD 46 0 ?_;go_frame;refine tkD 47 1 ?_;go_frame;refine tkD 48 2 ?_;go_frame;refine tkD 49 3 ?_;go_frame;refine tkD 50 4 ?_;go_frame;refine tkD 51 5 ?_;go_frame;refine tkD 52 6 ?_;go_frame;refine Az (some 53) (i:=7) (v:=(.int .i64 (mm:Int))) rfl rfl (by kernel_rfl) (by kernel_rfl) (by kernel_rfl) (fun _ _ _ h=>h) (by rfl) (fun wq _=>by rw[HMm.out];exact Nq (.tmp 51) (.tmp 52) m mx rfl rfl rfl hm10 hmx10 wq) (by assumption) ?_;go_frame;refine tkD 54 8 ?_;go_frame;refine Az (some 55) (i:=9) (v:=(.int .i64 X)) rfl rfl (by kernel_rfl) (by kernel_rfl) (by kernel_rfl) (fun _ _ _ h=>h) (by rfl) (fun wq _=>Rs (.tmp 53) (.tmp 54) (mm:Int) (on:Int) X rfl rfl rfl HXe.out wq) (by assumption) ?_;go_frame;refine tkD 56 10 ?_;go_frame;refine tkD 57 11 ?_;go_frame;refine tkD 58 12 ?_;go_frame;refine tkD 59 13 ?_;go_frame;refine tkD 60 14 ?_;go_frame;refine rd1 15 fun K hK=>?_
      go_simp;refine(HLo2.out _).mono ?_;rintro en w8 ⟨l8,hl8,rfl,hb8⟩;have hb48:=hb47.drew.trans (hb8.mono hb47.size);go_wp2_with fail
      refine hK.out _ _ (HS.out _ hb48) (fun hHeld=>?_);clear hK K;try go_frame
      refine Az (some 62) (i:=16) (v:=(.int .i64 ((on|||l8:Nat):Int))) rfl rfl (by kernel_rfl) (by kernel_rfl) (by kernel_rfl) (fun _ _ _ h=>h) (by rfl) (fun wq _=>Nq (.tmp 50) (.tmp 61) on l8 rfl rfl rfl hon hl8 wq) (by assumption) ?_;go_frame;refine rd1 17 fun K hK=>?_
      go_simp;refine(HVo'.out _ _ (hbx4.trans (hb48.mono hbx4.size))).mono ?_;rintro en w10 ⟨v,hv,rfl,hb10⟩;have hb410:=hb48.trans (hb10.mono hb48.size);have hbx10:=hbx4.trans (hb410.mono hbx4.size);have HVe:=AA hv;clear hv;go_wp2_with fail
      refine hK.out _ _ (HS.out _ hb410) (fun hHeld=>?_);clear hK K;try go_frame
      refine tkD 64 18 ?_;go_frame;refine tkD 65 19 ?_;go_frame;refine rd1 20 fun K hK=>?_
      rw[if_pos (by rfl)];refine BQ 46 (.tmp 4) (.tmp 64) (by rfl) g v.cells (by rfl) (by rfl) 46 Ah (HG.out _ hbx10) (by rfl) Ao (fun u hu=>BM _ hu) (by rfl) ?_;intro w9 hR9 hg9 hsz9;refine hK.out _ _ (HK9.out _ _ hb410 hg9) (fun hHeld=>?_);clear hK K;try go_frame
      refine tkD 5 21 ?_;go_frame;refine dnD ?_;go_wp2_with fail
      have hb08:=HB1.out.trans (hbx10.mono HB1.out.size);refine bodyPost_ret (Ab (g:=g) (cs:=(v).cells) rfl _ _ _ _ _ rfl hR9 Tryz.underlying46 rfl Ao) rfl ⟨some (v),rfl,HRel.out x _ v (.inl HX.out) (Nat.or_lt_two_pow (n:=10) hon hl8) HVe.out,?_⟩;exact Below.grown (hb08) hg9 (Below.size (hb08)) (fun k hk=>by injection hk with hk;subst hk;exact hgw)
    ·have di:decide ((i:Int)<(nL:Int))=false:=by simp;omega
     have HEn':=AA (HEn.out wr mx hbxr);go_wp2_with fail
     refine HEn'.out.mono ?_;rintro en w6 ⟨d6,rfl,hb6⟩;have hbx6:=hbxr.trans (hb6.mono hbxr.size);have hb06:=HB1.out.trans (hbx6.mono HB1.out.size);cases d6
     ·skip
      go_wp2_with (refine AJ rfl 46 (.tmp 4) (.tmp 71) rfl g Ah rfl rfl 46 Ah (HG.out _ hbx6) rfl Ao (fun u hu=>CE hu) ?_;intro w9 hR9 hg9 hsz9)
      refine bodyPost_ret (Ab (g:=g) (cs:=Ah) rfl _ _ _ _ _ rfl hR9 Tryz.underlying46 rfl Ao) rfl ⟨none,rfl,trivial,?_⟩;exact Below.grown (hb06) hg9 (Below.size (hb06)) (fun k hk=>by injection hk with hk;subst hk;exact hgw)
     ·have HCar':=AA (HCar.out _ hbx6);go_wp2_with fail
      refine HCar'.out.mono ?_;rintro en w7 ⟨ox,rfl,hox,hb7⟩;have hbx7:=hbx6.trans (hb7.mono hbx6.size);have hb07:=HB1.out.trans (hbx7.mono HB1.out.size);cases ox with
      |none=>
       clear hox;simp only[QY,Option.isSome_none];obtain⟨w8,hw8⟩:∃w8,w8=w7.alloc (.cells CS 258):=⟨_,rfl⟩;have hbx8:Below w1.heap.size w1 w8:=by rw[hw8];exact hbx7.alloc hbx7.size _
       have hb08:=HB1.out.trans (hbx8.mono HB1.out.size);go_upto_region 15 with fail
       try rw[←hw8]
       clear hw8;go_wp2_with (refine AJ rfl 46 (.tmp 4) (.tmp 80) rfl g Ah rfl rfl 46 Ah (HG.out _ hbx8) rfl Ao (fun u hu=>CE hu) ?_;intro w9 hR9 hg9 hsz9)
       refine bodyPost_ret (Ab (g:=g) (cs:=Ah) rfl _ _ _ _ _ rfl hR9 Tryz.underlying46 rfl Ao) rfl ⟨none,rfl,trivial,?_⟩;exact Below.grown (hb08) hg9 (Below.size (hb08)) (fun k hk=>by injection hk with hk;subst hk;exact hgw)
      |some x=>
       have HX:Hid (Cn 3 (r:Int) O x):=hox x rfl;clear hox;simp only[QY,Option.isSome_some];obtain⟨w8,hw8⟩:∃w8,w8=w7.alloc (.cells x.cells 258):=⟨_,rfl⟩;have hbx8:Below w1.heap.size w1 w8:=by rw[hw8];exact hbx7.alloc hbx7.size _
       have hB8:Blk w8 w7.heap.size 258 x.cells:=by rw[hw8];exact Blk.new w7 _ _
       go_upto_region 15 with fail
       rw[←hw8];obtain⟨z,hz⟩:∃z,z=w7.heap.size:=⟨_,rfl⟩;rw[←hz]at hB8 ⊢;have hzg:z≠g:=by have:=hbx7.size;omega
       have HZB:Hid (∀V,Below w8.heap.size w8 V→Blk V z 258 x.cells):=fun V hV=>hB8.below hV hB8.lt
       have hb88:Below w8.heap.size w8 w8:=AC _ _;have HLo2:Hid (∀V,Calls Tryz.prog 209 #[.int .i64 (mx:Int),.int .i64 (q:Int)] V fun e w'=>∃lw:Nat,lw<1024∧e= .returned (.int .i64 (lw:Int))∧Below V.heap.size V w'):=fun V=>HLo.out mx q V hq10
       have HVo':Hid (∀(V:World) (lw:Nat),Below w1.heap.size w1 V→Calls Tryz.prog 206 #[.pointer (some ⟨b,0,none⟩),.int .i64 3,.int .i64 ((r:Int)+1),x.val,.int .i64 (lw:Int)] V (fun e w'=>∃v:Vt,v=Vt.mk 3 (s:Int) ((r:Int)+1) x.choice f (lw:Int) p x.name∧e= .returned (.tuple #[v.val,.bool true])∧Below V.heap.size V w')):=fun V lw hV=>(HVo.out V x lw hV).mono fun e w' h=>⟨_,rfl,h⟩
       have HS:Hid (∀V,Below w8.heap.size w8 V→AK V z 0 9=some x.cells∧V.cell? ⟨b,1,none⟩=some (.int .i64 (q:Int))):=fun V hV=>⟨(HZB.out V hV).row 9 rfl,HQ.out V (hbx8.trans (hV.mono hbx8.size))⟩
       have HK9:Hid (∀V V',Below w8.heap.size w8 V→V.grownBy V' (some g)→AK V' z 0 9=some x.cells∧V'.cell? ⟨b,1,none⟩=some (.int .i64 (q:Int))):=fun V V' hV hg=>by
        have hv:=HVb.out V (hbx8.trans (hV.mono hbx8.size));have hbg:b≠g:=by intro e;have h1:=hv.blk;have h2:=HG.out V (hbx8.trans (hV.mono hbx8.size));rw[e]at h1;exact absurd (Cd h1 h2) (by decide)
        exact⟨((HZB.out V hV).kept hg (by intro e;injection e with e;exact hzg e)).row 9 rfl,(hv.blk.kept hg (by intro e;injection e with e;exact hbg e)).cell 1⟩
       clear hw8 hz hB8;go_upto_region 17 with fail
       refine rgD (fun V=>AK V z 0 9=some x.cells∧V.cell? ⟨b,1,none⟩=some (.int .i64 (q:Int))) (HS.out _ hb88.drew) fun hHeld=>?_
       refine tkD 81 0 ?_;go_frame;refine tkD 82 1 ?_;go_frame;refine tkD 83 2 ?_;go_frame;refine tkD 84 3 ?_;go_frame;refine tkD 85 4 ?_;go_frame;refine tkD 86 5 ?_;go_frame;refine tkD 87 6 ?_;go_frame;refine tkD 88 7 ?_;go_frame;refine tkD 89 8 ?_;go_frame;refine rd1 9 fun K hK=>?_
       go_simp;refine(HLo2.out _).mono ?_;rintro en w10 ⟨l8,hl8,rfl,hb10⟩;have hb810:=hb88.drew.trans (hb10.mono hb88.size);go_wp2_with fail
       refine hK.out _ _ (HS.out _ hb810) (fun hHeld=>?_);clear hK K;try go_frame
       refine rd1 10 fun K hK=>?_
       go_simp;refine(HVo'.out _ _ (hbx8.trans (hb810.mono hbx8.size))).mono ?_;rintro en w11 ⟨v,hv,rfl,hb11⟩;have hb811:=hb810.trans (hb11.mono hb810.size);have hbx11:=hbx8.trans (hb811.mono hbx8.size);have HVe:=AA hv;clear hv;go_wp2_with fail
       refine hK.out _ _ (HS.out _ hb811) (fun hHeld=>?_);clear hK K;try go_frame
       refine tkD 92 11 ?_;go_frame;refine tkD 93 12 ?_;go_frame;refine rd1 13 fun K hK=>?_
       rw[if_pos (by rfl)];refine BQ 46 (.tmp 4) (.tmp 92) (by rfl) g v.cells (by rfl) (by rfl) 46 Ah (HG.out _ hbx11) (by rfl) Ao (fun u hu=>BM _ hu) (by rfl) ?_;intro w9 hR9 hg9 hsz9;refine hK.out _ _ (HK9.out _ _ hb811 hg9) (fun hHeld=>?_);clear hK K;try go_frame
       refine tkD 5 14 ?_;go_frame;refine dnD ?_;go_wp2_with fail
       have hb011:=HB1.out.trans (hbx11.mono HB1.out.size);refine bodyPost_ret (Ab (g:=g) (cs:=(v).cells) rfl _ _ _ _ _ rfl hR9 Tryz.underlying46 rfl Ao) rfl ⟨some (v),rfl,HRel.out x _ v (.inr HX.out) hl8 HVe.out,?_⟩;exact Below.grown (hb011) hg9 (Below.size (hb011)) (fun k hk=>by injection hk with hk;subst hk;exact hgw)
end
end Go.Proofs.YtadllffeoibelaaGreat
