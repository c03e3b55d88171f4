/-
  What these parts of the proof come to, functions walked and plain laws: Next. No condition.
-/
import Derived.Test.YtadllffeoibelaaGreatS34
import Derived.Test.YtadllffeoibelaaGreatS35
import Derived.Test.YtadllffeoibelaaGreatS36
import Derived.Test.YtadllffeoibelaaGreatS37
import Derived.Deep.DeepCutAuto
import Derived.Test.YtadllffeoibelaaGreatS6
namespace Go.Proofs.YtadllffeoibelaaGreat
set_option maxRecDepth 100000
set_option maxHeartbeats 32000000
set_option linter.all false
section
open Go.RowKit Go.Shelf
attribute [local go_sem ↓] Go.wp_at_zero Go.wp_at_succ An Au Av Aw DK
attribute [local go_sem] BD BH BI BJ EO AN AW AQ
def T6(l:List Vt)(s:Nat)(p:Nm)(M q f:Int)(b mo:Nat)(w:World)(v iv:Value)(wr:World):Prop:=
 ∃(i:Nat) (D:List Vt) (kl:List ((Int×Int)×Value)),iv= .int .i64 (i:Int)∧i≤l.length∧D.length≤i∧D=spF s p (l.take i)∧wr.ownsRow w.heap.size 46 22 v D.length (D.flatMap vtc)∧
  Blk wr b 229 (Ca M q s f p none 0 0 mo)∧Bh DG wr mo kl∧OwB s p f (l.take i) i kl∧Below w.heap.size w wr
theorem JD{w:World}{base e size n:Nat}{v:Value}{xs:List Value}(h:w.ownsRow base e size v n xs):∃A c,v= .slice A n c∧Rd w w.heap.size A xs∧∀p',A=some p'→(Value.slice A n c).ownBlock=some p'.block:=by
 rcases h.2 with⟨rfl,h0⟩|⟨g,cap,cur,rfl,_⟩
 ·exact⟨none,0,by rw[h0],.inl (AV (by rw[h.1,h0,Nat.zero_mul])),fun p' h=>(by cases h)⟩
 ·exact⟨_,cap,rfl,Rd.of_own h,fun p' h=>by injection h with h;subst h;rfl⟩
theorem TE(n:Nat):B9 n≤n:=Nat.sub_le _ _
theorem QZ(M:Int)(p:Nm)(A:Option Addr)(n c:Nat)(l:List Vt)(s:Nat)(f:Int)(AH:Option Addr)(nH cH:Nat)(H:List Nm)(wt:Bool)(w0:World)(hn:l.length=n)(hr:Rd w0 w0.heap.size A (l.flatMap vtc))(hsm:n≤1000000)(hl:∀v∈l,Ae v)(hs9:s≤9)(hf:0≤f∧f≤9)(hnH:H.length=nH)(hrH:Rd w0 w0.heap.size AH (H.flatMap nmc))(hsmH:nH≤1000000):Calls Tryz.prog 111 #[.int .i64 M,p.val,.slice A n c,.int .i64 (s:Int),.int .i64 f,.slice AH nH cH,.bool wt] w0 (Cv (Ci M (B9 (At (xOf M) 10)) p s f l H wt) w0):=by
 obtain⟨w,hw⟩:∃w,w=w0.alloc (.cells p.cells 24):=⟨_,rfl⟩;obtain⟨w1,hw1⟩:∃w1,w1=w.alloc (.cells Ah 46):=⟨_,rfl⟩;have hs1:w.heap.size=w0.heap.size+1:=by rw[hw];simp
 have hb0:Below w0.heap.size w0 w:=by rw[hw];exact(AC _ _).alloc (AB _) _
 have hb1:Below w0.heap.size w0 w1:=by rw[hw1];exact hb0.alloc hb0.size _
 obtain⟨qb,hqb⟩:∃g,g=w0.heap.size:=⟨_,rfl⟩;obtain⟨g,hg⟩:∃g,g=w0.heap.size+1:=⟨_,rfl⟩;have hQ1:Blk w1 qb 24 p.cells:=by rw[hw1,hw,hqb];exact(Blk.new w0 _ _).alloc _
 have hG1:Blk w1 g 46 Ah:=by rw[hw1,hg,←hs1];exact Blk.new w _ _
 have hgw:w0.heap.size≤g:=by omega
 have hgl:g<w1.heap.size:=hG1.lt;have HG:Hid (∀V,Below w1.heap.size w1 V→Blk V g 46 Ah):=fun V hV=>hG1.below hV hG1.lt
 have HQ:Hid (∀V,Below w1.heap.size w1 V→AK V qb 0 8=some p.cells):=fun V hV=>(hQ1.below hV hQ1.lt).row 8 rfl
 have HRl:Hid (∀V,Below w1.heap.size w1 V→Rd V w0.heap.size A (l.flatMap vtc)):=fun V hV=>hr.below (hb1.trans (hV.mono hb1.size))
 have HRH:Hid (∀V,Below w1.heap.size w1 V→Rd V V.heap.size AH (H.flatMap nmc)):=fun V hV=>(hrH.below (hb1.trans (hV.mono hb1.size))).more (AF hb1.size hV.size)
 obtain⟨d,hd⟩:∃d,d=(xOf M).testBit f.toNat:=⟨_,rfl⟩;obtain⟨d',hd'⟩:∃d,d=(xOf M).testBit s:=⟨_,rfl⟩;have HHa:Hid (∀W,Calls Tryz.prog 19 #[.int .i64 M,.int .i64 f] W fun e w'=>e= .returned (.bool d)∧w'=W):=fun W=>by rw[hd];exact DO M f hf.1 hf.2 W
 have HHb:Hid (∀W,Calls Tryz.prog 19 #[.int .i64 M,.int .i64 (s:Int)] W fun e w'=>e= .returned (.bool d')∧w'=W):=fun W=>by rw[hd'];exact Dv M s (by omega) W
 have HOut:Hid (d'=true→Calls Tryz.prog 79 #[.int .i64 M,p.val,.slice A n c,.int .i64 (s:Int)] w1 (I7 M p s l w1)):=fun h=>Lf M p A n c l s w1 hn ((hr.below hb1).more hb1.size) hsm hl (by rw[←hd'];exact h)
 have hl6:l.length≤1000000:=by omega
 have HF:=AA hf;have HN:=AA hn;have HL:=AA hl;have HNH:=AA hnH;have HB1:=AA hb1;have HW:=AA hw;have HW1:=AA hw1;have HGg:=AA hg;have HQb:=AA hqb;have HD0:=AA hd.symm;have HD0':=AA hd'.symm;have hbx:Below w1.heap.size w1 w1:=AC _ _;clear hw hw1 hs1 hb0 hb1 hqb hg hQ1 hG1 hr hrH hd hd' hf hn hl hnH;go_enter Tryz.func111,Tryz.ntmps111;go_upto_region 1 with fail
 simp only[←HW.out,←HW1.out,←HGg.out];simp only[←HQb.out];go_wp2_with fail
 refine(HHa.out _).mono ?_;rintro en w2 ⟨rfl,hw2⟩;replace hw2:=hw2.symm;subst hw2;clear HHa;cases d with
 |false=>
  go_wp2_with (refine AJ rfl 46 (.tmp 14) (.tmp 48) rfl g Ah rfl rfl 46 Ah (HG.out _ hbx) rfl Ao (fun u hu=>CE hu) ?_;intro w9 hR9 hg9 hsz9)
  refine bodyPost_ret (Ab (g:=g) (cs:=Ah) rfl _ _ _ _ _ rfl hR9 Tryz.underlying46 rfl Ao) rfl ⟨none,rfl,.inl (fun h=>by have h1:=HD0.out;rw[h.2]at h1;cases h1),?_⟩;exact Below.grown (HB1.out) hg9 (Below.size (HB1.out)) (fun k hk=>by injection hk with hk;subst hk;exact hgw)
 |true=>
  go_wp2_with fail
  refine(HHb.out _).mono ?_;rintro en w2 ⟨rfl,hw2⟩;replace hw2:=hw2.symm;subst hw2;clear HHb;cases d' with
  |false=>
   go_wp2_with (refine AJ rfl 46 (.tmp 14) (.tmp 48) rfl g Ah rfl rfl 46 Ah (HG.out _ hbx) rfl Ao (fun u hu=>CE hu) ?_;intro w9 hR9 hg9 hsz9)
   refine bodyPost_ret (Ab (g:=g) (cs:=Ah) rfl _ _ _ _ _ rfl hR9 Tryz.underlying46 rfl Ao) rfl ⟨none,rfl,.inr (.inl HD0'.out),?_⟩;exact Below.grown (HB1.out) hg9 (Below.size (HB1.out)) (fun k hk=>by injection hk with hk;subst hk;exact hgw)
  |true=>
   have y1:AK w1 qb 0 8=some p.cells:=HQ.out _ hbx;have HOut':=AA (HOut.out rfl);clear HOut;go_wp2_with fail
   refine HOut'.out.mono ?_;rintro en w3 ⟨v3,L,rfl,hL3,hLn,hown3,hb3⟩;have hbx3:=hbx.trans hb3;have hb03:=HB1.out.trans (hbx3.mono HB1.out.size);obtain⟨A3,c3,rfl,hR3⟩:=BY hown3;clear hR3 hown3 hb3 HOut' y1;obtain⟨nL,hnL⟩:∃nL,L.length=nL:=⟨_,rfl⟩;rw[hnL]at hLn ⊢;have HNL:=AA hnL;have HL3:=AA hL3;clear hnL hL3;rcases Nat.eq_zero_or_pos nL with h0|h0
   rotate_left
   ·have dn:decide ((0:Int)<(nL:Int))=true:=by simp;omega
    go_wp2_with (refine AJ rfl 46 (.tmp 14) (.tmp 48) rfl g Ah rfl rfl 46 Ah (HG.out _ hbx3) rfl Ao (fun u hu=>CE hu) ?_;intro w9 hR9 hg9 hsz9)
    refine bodyPost_ret (Ab (g:=g) (cs:=Ah) rfl _ _ _ _ _ rfl hR9 Tryz.underlying46 rfl Ao) rfl ⟨none,rfl,.inr (.inr (.inl ⟨L,HL3.out,fun e=>by have h1:=HNL.out;rw[e]at h1;simp at h1;omega⟩)),?_⟩;exact Below.grown (hb03) hg9 (Below.size (hb03)) (fun k hk=>by injection hk with hk;subst hk;exact hgw)
   ·subst h0;have hLnil:L=[]:=AV HNL.out;have HOg:Hid (I6 M p s l []):=by unfold Hid;rw[←hLnil];exact HL3.out
    clear hLnil HL3 HNL;have hpos:0<At (xOf M) 10:=Np HD0'.out;obtain⟨q,hq⟩:∃q,q=B9 (At (xOf M) 10):=⟨_,rfl⟩;have hq1:1≤q:=by rw[hq];exact IL hpos
    have hq10:q≤10:=by rw[hq];exact AF (TE _) (D6 _ _)
    have HSz:Hid (∀W,Calls Tryz.prog 15 #[.int .i64 M] W fun e w'=>e= .returned (.int .i64 ((At (xOf M) 10:Nat):Int))∧w'=W):=fun W=>CU M W
    have HQu:Hid (∀W,Calls Tryz.prog 115 #[.int .i64 ((At (xOf M) 10:Nat):Int)] W fun e w'=>e= .returned (.int .i64 (q:Int))∧w'=W):=fun W=>by rw[hq];exact Ej _ (D6 _ _) W
    have HQe:=AA hq;obtain⟨a,ha⟩:∃a,a=At (xOf M) 10:=⟨_,rfl⟩;rw[←ha]at HSz HQu;clear hpos hq ha;have hmk:∀W:World,(Instr.makeMap 227 none).run Tryz.prog W= .ok (.map (some W.heap.size)) (W.alloc (.map #[] 0)):=fun W=>rfl
    go_upto_region 4 with fail
    go_cut[17] (fun sv wx=>∃b mo,sv= .pointer (some ⟨b,0,none⟩)∧Blk wx b 229 (Ca M q s f p none 0 0 mo)∧Bh DG wx mo []∧w3.heap.size≤b∧w3.heap.size≤mo∧Below w3.heap.size w3 wx)
    case first=>
     refine rgD (fun V=>AK V qb 0 8=some p.cells) (HQ.out _ (hbx3.trans (AC _ _).drew)) fun hHeld=>?_
     refine tkD 49 0 ?_;go_frame;refine tkD 50 1 ?_;go_frame;refine tkD 53 4 ?_;go_frame;refine tkD 54 5 ?_;go_frame;refine tkD 55 6 ?_;go_frame;refine rd2 2 7 (fun K hK=>?_) fun K hK=>?_
     ·go_simp;refine(HSz.out _).mono ?_;rintro en w5 ⟨rfl,hw5⟩;replace hw5:=hw5.symm;subst hw5;go_wp2_with fail
      refine hK.out _ _ (HQ.out _ (hbx3.trans (AC _ _).drew)) (fun hHeld=>?_);clear hK K;try go_frame
      refine rd2 3 7 (fun K hK=>?_) fun K hK=>?_
      ·go_simp;refine(HQu.out _).mono ?_;rintro en w5 ⟨rfl,hw5⟩;replace hw5:=hw5.symm;subst hw5;go_wp2_with fail
       refine hK.out _ _ (HQ.out _ (hbx3.trans (AC _ _).drew)) (fun hHeld=>?_);clear hK K;try go_frame
       refine rd1 7 fun K hK=>?_
       go_simp;refine hK.out _ _ (HQ.out _ (hbx3.trans ((AC _ w3).alloc hbx3.size _).drew)) (fun hHeld=>?_);clear hK K;try go_frame
       refine Az (some 57) (i:=8) (v:=(.agg (Ca M q s f p none 0 0 w3.heap.size))) rfl rfl (by kernel_rfl) (by kernel_rfl) (by kernel_rfl) (fun _ _ _ h=>h) (by rfl) (fun wq _=>FH M q s f p w3.heap.size (.tmp 49) (.tmp 52) (.tmp 53) (.tmp 54) (.tmp 55) (.tmp 56) rfl rfl rfl rfl rfl rfl rfl wq) (by assumption) ?_;go_frame;refine rd1 9 fun K hK=>?_
       go_simp;refine hK.out _ _ (HQ.out _ (hbx3.trans (((AC _ w3).alloc hbx3.size _).alloc (AF hbx3.size (by simp)) _).drew)) (fun hHeld=>?_);clear hK K;try go_frame
       refine tkD 17 10 ?_;go_frame;refine dnD ?_;go_wp2_with fail
       go_meet;refine⟨w3.heap.size+1,w3.heap.size,?_,?_,?_,Nat.le_succ _,AB _,?_⟩
       ·first|rfl|simp
       ·have:=Blk.new (w3.alloc (.map #[] 0)) 229 (Ca M q s f p none 0 0 w3.heap.size);rwa[World.size_alloc]at this
       ·exact(Bh.new DG w3).alloc _
       ·exact(((AC w3.heap.size w3).alloc (AB _) _).alloc (by simp) _).drew
      ·go_simp;refine hK.out _ _ (HQ.out _ (hbx3.trans ((AC _ w3).alloc hbx3.size _).drew)) (fun hHeld=>?_);clear hK K;try go_frame
       refine rd1 3 fun K hK=>?_
       go_simp;refine(HQu.out _).mono ?_;rintro en w5 ⟨rfl,hw5⟩;replace hw5:=hw5.symm;subst hw5;go_wp2_with fail
       refine hK.out _ _ (HQ.out _ (hbx3.trans ((AC _ w3).alloc hbx3.size _).drew)) (fun hHeld=>?_);clear hK K;try go_frame
       refine Az (some 57) (i:=8) (v:=(.agg (Ca M q s f p none 0 0 w3.heap.size))) rfl rfl (by kernel_rfl) (by kernel_rfl) (by kernel_rfl) (fun _ _ _ h=>h) (by rfl) (fun wq _=>FH M q s f p w3.heap.size (.tmp 49) (.tmp 52) (.tmp 53) (.tmp 54) (.tmp 55) (.tmp 56) rfl rfl rfl rfl rfl rfl rfl wq) (by assumption) ?_;go_frame;refine rd1 9 fun K hK=>?_
       go_simp;refine hK.out _ _ (HQ.out _ (hbx3.trans (((AC _ w3).alloc hbx3.size _).alloc (AF hbx3.size (by simp)) _).drew)) (fun hHeld=>?_);clear hK K;try go_frame
       refine tkD 17 10 ?_;go_frame;refine dnD ?_;go_wp2_with fail
       go_meet;refine⟨w3.heap.size+1,w3.heap.size,?_,?_,?_,Nat.le_succ _,AB _,?_⟩
       ·first|rfl|simp
       ·have:=Blk.new (w3.alloc (.map #[] 0)) 229 (Ca M q s f p none 0 0 w3.heap.size);rwa[World.size_alloc]at this
       ·exact(Bh.new DG w3).alloc _
       ·exact(((AC w3.heap.size w3).alloc (AB _) _).alloc (by simp) _).drew
     ·go_simp;refine hK.out _ _ (HQ.out _ (hbx3.trans ((AC _ w3).alloc hbx3.size _).drew)) (fun hHeld=>?_);clear hK K;try go_frame
      refine rd1 2 fun K hK=>?_
      go_simp;refine(HSz.out _).mono ?_;rintro en w5 ⟨rfl,hw5⟩;replace hw5:=hw5.symm;subst hw5;go_wp2_with fail
      refine hK.out _ _ (HQ.out _ (hbx3.trans ((AC _ w3).alloc hbx3.size _).drew)) (fun hHeld=>?_);clear hK K;try go_frame
      refine rd1 3 fun K hK=>?_
      go_simp;refine(HQu.out _).mono ?_;rintro en w5 ⟨rfl,hw5⟩;replace hw5:=hw5.symm;subst hw5;go_wp2_with fail
      refine hK.out _ _ (HQ.out _ (hbx3.trans ((AC _ w3).alloc hbx3.size _).drew)) (fun hHeld=>?_);clear hK K;try go_frame
      refine Az (some 57) (i:=8) (v:=(.agg (Ca M q s f p none 0 0 w3.heap.size))) rfl rfl (by kernel_rfl) (by kernel_rfl) (by kernel_rfl) (fun _ _ _ h=>h) (by rfl) (fun wq _=>FH M q s f p w3.heap.size (.tmp 49) (.tmp 52) (.tmp 53) (.tmp 54) (.tmp 55) (.tmp 56) rfl rfl rfl rfl rfl rfl rfl wq) (by assumption) ?_;go_frame;refine rd1 9 fun K hK=>?_
      go_simp;refine hK.out _ _ (HQ.out _ (hbx3.trans (((AC _ w3).alloc hbx3.size _).alloc (AF hbx3.size (by simp)) _).drew)) (fun hHeld=>?_);clear hK K;try go_frame
      refine tkD 17 10 ?_;go_frame;refine dnD ?_;go_wp2_with fail
      go_meet;refine⟨w3.heap.size+1,w3.heap.size,?_,?_,?_,Nat.le_succ _,AB _,?_⟩
      ·first|rfl|simp
      ·have:=Blk.new (w3.alloc (.map #[] 0)) 229 (Ca M q s f p none 0 0 w3.heap.size);rwa[World.size_alloc]at this
      ·exact(Bh.new DG w3).alloc _
      ·exact(((AC w3.heap.size w3).alloc (AB _) _).alloc (by simp) _).drew
    case rest=>
     obtain⟨b,mo,rfl,hB4,hM4,hbw3,hmw3,hb4⟩:=hcut;generalize wc=w4 at*;have hbx4:=hbx3.trans (hb4.mono hbx3.size);have hb04:=HB1.out.trans (hbx4.mono HB1.out.size);have hbl:b<w4.heap.size:=hB4.lt;have hml:mo<w4.heap.size:=hM4.is.lt;have hbg:w0.heap.size≤b:=AF hb03.size hbw3;have HB4:=AA hB4;have HM4:=AA hM4;clear hB4 hM4;go_wp2
     go_loopw [16,61] (fun v iv wr=>T6 l s p M q f b mo w3 v iv wr) (fun _ iv _=>n-(intOf iv).toNat)
     case atStart=>exact⟨0,[],[],rfl,Nat.zero_le _,Nat.zero_le _,by simp[spF],⟨by simp,.inl ⟨rfl,rfl⟩⟩,HB4.out,HM4.out,OwB.nil s p f,hb4⟩
     case round=>
      obtain⟨i,D,kl,rfl,hin,hDi,hD,hown,hBv,hMv,how,hbw⟩:=hrel;rw[HN.out]at hin;have HDe:=AA hD;have HOwn:=AA hown;have HBv:=AA hBv;have HMv:=AA hMv;have HOw:=AA how;have hD6:D.length≤1000000:=by omega
      have hbxr:=hbx3.trans (hbw.mono hbx3.size);clear hD hown hBv hMv how;by_cases hi:i<n
      ·have di:decide ((i:Int)<(n:Int))=true:=by simp;omega
       obtain⟨x,hx⟩:∃x,l[i]? =some x:=⟨_,AE (by rw[HN.out];exact hi)⟩;obtain⟨b0,o,rfl,hb,hcell⟩:=(HRl.out _ hbx).cells (by intro e;have:=AX vtc 22 l (B6 l);rw[e,HN.out]at this;simp at this;omega);clear hcell;have x1:AK wr b0 (o+i*22) 22=some x.cells:=(HRl.out _ hbxr).voteRow hx;have HXx:=AA hx;have HXv:=AA (HL.out x (AM hx));clear hx;go_upto_region 8 with(refine AJ rfl 46 (.tmp 19) (.tmp 64) rfl wr.heap.size x.cells rfl rfl 46 Bk.cells (Blk.new wr _ _) (by rfl) (by kernel_rfl) (fun u hu=>BM x hu) ?_;intro w5 hB5 hg5 hsz5)
       have HOwn5:Hid (w5.ownsRow w3.heap.size 46 22 u16 D.length (D.flatMap vtc)):=BZ (HOwn.out.alloc _) hg5 (fun k hk=>by
        injection hk with hk
        subst hk;right;intro e;have:=(HOwn.out.lt _ e).2;omega)
       have hbw5:Below w3.heap.size w3 w5:=(hbw.alloc hbw.size _).grown hg5 (AF hbw.size (by simp)) (fun k hk=>by injection hk with hk;subst hk;exact hbw.size);have HBv5:Hid (Blk w5 b 229 (Ca M q s f p none 0 0 mo)):=(HBv.out.alloc _).kept hg5 (by intro e;injection e with e;have:=HBv.out.lt;omega);have HMv5:Hid (Bh DG w5 mo kl):=(HMv.out.alloc _).kept hg5 (by intro e;injection e with e;have:=HMv.out.is.lt;omega);obtain⟨z,hz⟩:∃z,z=wr.heap.size:=⟨_,rfl⟩;have HZr:Hid (some z≠u16.ownBlock):=by
        intro e;rw[hz]at e;have:=(HOwn.out.lt _ e.symm).2;omega
       rw[←hz]at hB5 ⊢;have hzb:z≠b:=by have:=HBv.out.lt;omega
       have hzm:z≠mo:=by have:=HMv.out.is.lt;omega
       have hzq:w3.heap.size≤z:=by rw[hz];exact hbw.size
       have hbx5:=hbx3.trans (hbw5.mono hbx3.size);have x3:AK w5 z 0 22=some x.cells:=hB5.row 22 rfl;have x4:w5.cell? ⟨z,1,none⟩=some (.int .i64 x.slot):=hB5.cell 1;have x6:AK w5 z 6 8=some x.parent.cells:=x.row_parent hB5;have y5:AK w5 qb 0 8=some p.cells:=HQ.out _ hbx5;have HZ5:=AA hB5;clear hB5 hg5 hsz5 x1 hz HOwn hbw hbxr;try go_frame
       by_cases h1:x.slot=(s:Int)
       rotate_left
       ·have e1:(x.slot==(s:Int))=false:=by simpa using h1
        have HSl:=AA h1;clear h1;go_wp2;go_roundw
        case rel=>exact⟨i+1,D,kl,by go_num,by rw[HN.out];omega,by omega,(by rw[JC HXx.out (fun h=>HSl.out h.1)];exact HDe.out),HOwn5.out,HBv5.out,HMv5.out,HOw.out.miss HXx.out (fun h=>HSl.out h.1),hbw5⟩
        case measure=>simp[intOf];omega
       have e1:(x.slot==(s:Int))=true:=by rw[h1];exact beq_self_eq_true _
       have HSl:=AA h1;clear h1;by_cases h2:x.parent=p
       rotate_left
       ·have e2:∀W,(Op.equalIn 10000 24 (.agg x.parent.cells) (.agg p.cells)).run Tryz.prog W= .ok false W:=fun W=>by
         have h:=Dz x.parent p W 9998;rwa[decide_eq_false h2]at h
        have HPa:=AA h2;clear h2;go_wp2;go_roundw
        case rel=>exact⟨i+1,D,kl,by go_num,by rw[HN.out];omega,by omega,(by rw[JC HXx.out (fun h=>HPa.out h.2)];exact HDe.out),HOwn5.out,HBv5.out,HMv5.out,HOw.out.miss HXx.out (fun h=>HPa.out h.2),hbw5⟩
        case measure=>simp[intOf];omega
       have e2:∀W,(Op.equalIn 10000 24 (.agg x.parent.cells) (.agg p.cells)).run Tryz.prog W= .ok true W:=fun W=>by
        have h:=Dz x.parent p W 9998;rwa[decide_eq_true h2]at h
       have HPa:=AA h2;clear h2;go_wp2_with ((first
        |(refine BP rfl 56 46 (.tmp 76) rfl x.cells rfl Tryz.underlying56 (by kernel_rfl) (by decide) (by decide) ?_)
        |(at_builtin;refine Aq rfl (.tmp 75) (.tmp 77) _ rfl w3.heap.size 46 (.agg Bk.cells) 22 64 Tryz.underlying56 CA rfl (by decide) u16 D.length (D.flatMap vtc) rfl ?r0 (w5.heap.size+1) (some ⟨w5.heap.size,0,none⟩) 1 1 (vtc x) rfl ?r1 ?r2 ?r3 ?r4 ?r5 ?r6 ?_)))
       case r0=>exact HOwn5.out.alloc _
       case r1=>rfl
       case r2=>exact Rd.mk (by omega) (fun j u hu=>by rw[Nat.zero_add,(Blk.new w5 _ _).cell];simpa using hu)
       case r3=>exact fun u hu=>BM x hu
       case r4=>omega
       case r5=>unfold maxLen;omega
       case r6=>have:=hbw5.size;simp;omega
       intro v7 w7 hown7 hg7 hat7;have hbw7:Below w3.heap.size w3 w7:=BL (hbw5.alloc hbw5.size _) (HOwn5.out.alloc _) hg7;have HBv7:Hid (Blk w7 b 229 (Ca M q s f p none 0 0 mo)):=(HBv5.out.alloc _).kept hg7 (CC HOwn5.out HBv5.out (by decide));have HMv7:Hid (Bh DG w7 mo kl):=(HMv5.out.alloc _).kept hg7 (J6 HMv5.out HOwn5.out);have hzr:=HZr.out;have HZ7:Hid (Blk w7 z 46 x.cells):=(HZ5.out.alloc _).kept hg7 hzr;have HOwn7:=AA hown7;have hbx7:=hbx3.trans (hbw7.mono hbx3.size);have x7:w7.cell? ⟨z,4,none⟩=some (.int .i64 x.signer):=HZ7.out.cell 4;have x8:AK w7 z 0 22=some x.cells:=HZ7.out.row 22 rfl;have HDn:Hid (D++[x]=spF s p (l.take (i+1))):=by unfold Hid;rw[Kd HXx.out HSl.out HPa.out,←HDe.out]
       have HOr:Hid (∀W,w7.grownBy W (some mo)→W.ownsRow w3.heap.size 46 22 v7 (D++[x]).length ((D++[x]).flatMap vtc)):=fun W hW=>by
        have h:=BZ HOwn7.out hW (fun j hj=>by injection hj with hj;subst hj;exact .inr (fun e=>J6 HMv7.out HOwn7.out e.symm));rw[AI,Ad];simpa using h
       have HDl:Hid ((D++[x]).length≤i+1):=by unfold Hid;rw[AI,List.length_singleton];omega
       clear hown7 hg7 hat7 x3 x4 x6 y5 HOwn5 hzr;by_cases h3:x.signer=f
       rotate_left
       ·have e3:(x.signer==f)=false:=by simpa using h3
        have HOw':=AA (HOw.out.other HXx.out HSl.out HPa.out h3);clear h3;go_wp2;go_roundw
        case rel=>exact⟨i+1,D++[x],kl,by go_num,by rw[HN.out];omega,HDl.out,HDn.out,HOr.out _ (Ai w7 mo),HBv7.out,HMv7.out,HOw'.out,hbw7⟩
        case measure=>simp[intOf];omega
       have e3:(x.signer==f)=true:=by rw[h3];exact beq_self_eq_true _
       have HSg:=AA h3;have HVal:Hid (∀W,Calls Tryz.prog 49 #[x.val] W (Al W true)):=fun W=>by
        have h:=Cm x W ⟨by have:=HXv.out.2.2.2.1;omega,by have:=HXv.out.2.2.2.1;omega⟩;rwa[decide_eq_true HXv.out]at h
       clear h3;go_upto_region 11 with(go_at_call 49;refine(HVal.out _).mono ?_;rintro en w8 ⟨rfl,hb8⟩)
       have hbw8:=hbw7.trans (hb8.mono hbw7.size);have HZ8:Hid (Blk w8 z 46 x.cells):=HZ7.out.below hb8 HZ7.out.lt;have HBv8:Hid (Blk w8 b 229 (Ca M q s f p none 0 0 mo)):=HBv7.out.below hb8 HBv7.out.lt;have HMv8:Hid (Bh DG w8 mo kl):=HMv7.out.below hb8 HMv7.out.is.lt;have HGr8:Hid (w7.grownBy w8 (some mo)):=Bm hb8;have hbx8:=hbx3.trans (hbw8.mono hbx3.size);obtain⟨zn,hzn,hzi,hzd⟩:=HOw.out x.kind x.round;have HZn:=AA hzn;have hwz:IntKind.i64.wrap ((zn:Int)+1)=((zn+1:Nat):Int):=by rw[IntKind.wrap_i64];omega
       have hbm:b≠mo:=fun e=>J7 HMv8.out HBv8.out e.symm
       have HS:Hid (∀V,w8.grownBy V (some mo)→V.cell? ⟨b,13,none⟩=some (.map (some mo))∧V.cell? ⟨z,0,none⟩=some (.int .i64 x.kind)∧V.cell? ⟨z,2,none⟩=some (.int .i64 x.round)):=fun V hV=>
        ⟨(HBv8.out.kept hV (by intro e;injection e with e;exact hbm e)).cell 13,(HZ8.out.kept hV (by intro e;injection e with e;exact hzm e)).cell 0,(HZ8.out.kept hV (by intro e;injection e with e;exact hzm e)).cell 2⟩
       clear hzn hzd HVal x7 x8 hb8 HBv HMv;refine rgD (fun V=>V.cell? ⟨b,13,none⟩=some (.map (some mo))∧V.cell? ⟨z,0,none⟩=some (.int .i64 x.kind)∧V.cell? ⟨z,2,none⟩=some (.int .i64 x.round)) (HS.out _ (BX (Ai w8 mo))) fun hHeld=>?_
       refine tkD 87 0 ?_;go_frame;refine tkD 88 1 ?_;go_frame;refine tkD 89 2 ?_;go_frame;refine tkD 90 3 ?_;go_frame;refine tkD 91 4 ?_;go_frame;refine tkD 92 5 ?_;go_frame;refine tkD 93 6 ?_;go_frame;refine tkD 94 7 ?_;go_frame;refine tkD 95 8 ?_;go_frame;refine rd2 9 11 (fun K hK=>?_) fun K hK=>?_
       ·rw[if_pos (by rfl)];refine B5 (.int .i64 (zn:Int)) ((J5 (.tmp 90) (.tmp 95) rfl mo (x.kind,x.round) rfl rfl (w:=w8.drew) (HMv8.out.below (AC w8.heap.size w8).drew HMv8.out.is.lt)).trans (by rw[HZn.out])) ?_;refine hK.out _ _ (HS.out _ (BX (Ai w8 mo))) (fun hHeld=>?_);clear hK K;try go_frame
        refine tkD 97 10 ?_;go_frame;refine rd1 11 fun K hK=>?_
        rw[if_pos (by rfl)];refine Nk (.tmp 90) (.tmp 95) rfl mo (x.kind,x.round) rfl rfl (w:=w8.drew) (HMv8.out.below (AC w8.heap.size w8).drew HMv8.out.is.lt) ?_;intro w9 b9 v9 kl9 hE9 hA9 hg9 hs9;have HLk9:Hid ((BR (x.kind,x.round) kl9).getD (.int .i64 0)= .int .i64 (zn:Int)):=by(unfold Hid;rw[hA9 (x.kind,x.round),if_pos rfl,Option.getD_some];exact HZn.out)
        have HA9:=AA hA9;have HGr9:Hid (w8.grownBy w9 (some mo)):=(BX (Ai w8 mo)).trans hg9;have HE9:=AA hE9;clear hE9 hA9 hg9;refine hK.out _ _ (HS.out _ HGr9.out) (fun hHeld=>?_);clear hK K;try go_frame
        refine tkD 99 12 ?_;go_frame;refine rd1 13 fun K hK=>?_
        rw[if_pos (by rfl)];refine Nl (.tmp 90) (.tmp 99) (.tmp 97) rfl mo b9 (x.kind,x.round) (.int .i64 ((zn+1:Nat):Int)) rfl rfl (by first|rfl|(rw[←hwz];rfl)) (w:=w9) HE9.out ?_;intro w10 kl10 hK10 hM10 hg10 hs10;have HK10:=AA hK10;have HGr10:Hid (w8.grownBy w10 (some mo)):=HGr9.out.trans hg10;have HM10:=AA hM10;clear hK10 hM10 hg10;refine hK.out _ _ (HS.out _ HGr10.out) (fun hHeld=>?_);clear hK K;try go_frame
        refine dnD ?_;have HOw':=AA (HOw.out.hit HXx.out HSl.out HPa.out HSg.out HZn.out HA9.out HK10.out);have HGr710:Hid (w7.grownBy w10 (some mo)):=HGr8.out.trans HGr10.out;have hbw10:Below w3.heap.size w3 w10:=hbw7.grown HGr710.out hbw7.size (fun k hk=>by injection hk with hk;subst hk;exact hmw3);go_wp2_with fail
        go_roundw
        case rel=>exact⟨i+1,D++[x],kl10,by go_num,by rw[HN.out];omega,HDl.out,HDn.out,HOr.out _ HGr710.out,HBv8.out.kept HGr10.out (by intro e;injection e with e;exact hbm e),HM10.out,HOw'.out,hbw10⟩
        case measure=>simp[intOf];omega
       ·rw[if_pos (by rfl)];refine Nk (.tmp 90) (.tmp 95) rfl mo (x.kind,x.round) rfl rfl (w:=w8.drew) (HMv8.out.below (AC w8.heap.size w8).drew HMv8.out.is.lt) ?_;intro w9 b9 v9 kl9 hE9 hA9 hg9 hs9;have HLk9:Hid ((BR (x.kind,x.round) kl9).getD (.int .i64 0)= .int .i64 (zn:Int)):=by(unfold Hid;rw[hA9 (x.kind,x.round),if_pos rfl,Option.getD_some];exact HZn.out)
        have HA9:=AA hA9;have HGr9:Hid (w8.grownBy w9 (some mo)):=(BX (Ai w8 mo)).trans hg9;have HE9:=AA hE9;clear hE9 hA9 hg9;refine hK.out _ _ (HS.out _ HGr9.out) (fun hHeld=>?_);clear hK K;try go_frame
        refine tkD 99 12 ?_;go_frame;refine rd1 9 fun K hK=>?_
        rw[if_pos (by rfl)];refine B5 (.int .i64 (zn:Int)) ((J5 (.tmp 90) (.tmp 95) rfl mo (x.kind,x.round) rfl rfl (w:=w9) HE9.out.isB).trans (by rw[HLk9.out])) ?_;refine hK.out _ _ (HS.out _ HGr9.out) (fun hHeld=>?_);clear hK K;try go_frame
        refine tkD 97 10 ?_;go_frame;refine rd1 13 fun K hK=>?_
        rw[if_pos (by rfl)];refine Nl (.tmp 90) (.tmp 99) (.tmp 97) rfl mo b9 (x.kind,x.round) (.int .i64 ((zn+1:Nat):Int)) rfl rfl (by first|rfl|(rw[←hwz];rfl)) (w:=w9) HE9.out ?_;intro w10 kl10 hK10 hM10 hg10 hs10;have HK10:=AA hK10;have HGr10:Hid (w8.grownBy w10 (some mo)):=HGr9.out.trans hg10;have HM10:=AA hM10;clear hK10 hM10 hg10;refine hK.out _ _ (HS.out _ HGr10.out) (fun hHeld=>?_);clear hK K;try go_frame
        refine dnD ?_;have HOw':=AA (HOw.out.hit HXx.out HSl.out HPa.out HSg.out HZn.out HA9.out HK10.out);have HGr710:Hid (w7.grownBy w10 (some mo)):=HGr8.out.trans HGr10.out;have hbw10:Below w3.heap.size w3 w10:=hbw7.grown HGr710.out hbw7.size (fun k hk=>by injection hk with hk;subst hk;exact hmw3);go_wp2_with fail
        go_roundw
        case rel=>exact⟨i+1,D++[x],kl10,by go_num,by rw[HN.out];omega,HDl.out,HDn.out,HOr.out _ HGr710.out,HBv8.out.kept HGr10.out (by intro e;injection e with e;exact hbm e),HM10.out,HOw'.out,hbw10⟩
        case measure=>simp[intOf];omega
      ·have di:decide ((i:Int)<(n:Int))=false:=by simp;omega
       have hin':i=n:=by omega
       have hDall:D=spF s p l:=by
        have h:=HDe.out;rw[AT (by rw[HN.out];omega)]at h;exact h
       have HOwl:Hid (OwB s p f l i kl):=by
        have h:=HOw.out;rw[AT (by rw[HN.out];omega)]at h;exact h
       obtain⟨A1,c1,hu16,hR1,hne1⟩:=JD HOwn.out;subst hu16;have hm:∀v∈D,Ae v∧v.slot=(s:Int):=fun v hv=>by
        rw[hDall]at hv;exact⟨HL.out v (Nn hv).1,(Nn hv).2.1⟩
       have hnb:some b≠(Value.slice A1 D.length c1).ownBlock:=CC HOwn.out HBv.out (by decide);have hne1':∀p',A1=some p'→some p'.block≠some b:=fun p' h e=>hnb (by rw[hne1 p' h];exact e.symm)
       have HNe1:=AA hne1';have HAcc:=AA (I3 M p A1 D.length c1 D (s:Int) wr rfl hR1 hD6 hm (by simpa using HD0'.out));have HR1:=AA hR1;have HDall:=AA hDall;have HDm:=AA hm;have y1:AK wr qb 0 8=some p.cells:=HQ.out _ hbxr;have y6:wr.cell? ⟨b,12,none⟩=some (.slice none 0 0):=HBv.out.cell 12;obtain⟨nD,hnD⟩:∃nD,nD=D.length:=⟨_,rfl⟩;rw[←hnD]at HAcc hD6 ⊢;have HND:Hid (D.length=nD):=hnD.symm;clear hDall hm hR1 HOwn HOw HDe hne1 hne1' hnb hnD hDi;go_upto_region 13 with fail
       go_wp2_with fail
       refine HAcc.out.mono ?_;rintro en wa ⟨va,O,rfl,hO,hOn,howna,hba⟩;obtain⟨AO,cO,rfl,hRO,hneO⟩:=JD howna;have hbwa:=hbw.trans (hba.mono hbw.size);have HBva:Hid (Blk wa b 229 (Ca M q s f p none 0 0 mo)):=HBv.out.below hba HBv.out.lt;have HMva:Hid (Bh DG wa mo kl):=HMv.out.below hba HMv.out.is.lt;have HRa:Hid (Rd wa wa.heap.size A1 (D.flatMap vtc)):=(HR1.out.below hba).more hba.size;have y7:wa.cell? ⟨b,12,none⟩=some (.slice none 0 0):=HBva.out.cell 12;have y8:wa.frozen? ⟨b,12,none⟩=false:=HBva.out.frozen 12;have hObn:some b≠(Value.slice AO O.length cO).ownBlock:=CC howna HBva.out (by decide);have hneO':∀p',AO=some p'→some p'.block≠some b:=fun p' h e=>hObn (by rw[hneO p' h];exact e.symm)
       have HRO:=AA hRO;have HNeO:=AA hneO';have HO:=AA hO;have hO6:O.length≤1000000:=by omega
       clear hO howna hneO hneO' hObn hRO HAcc y1 y6 hba HBv HMv HR1;go_upto_region 14 with fail
       obtain⟨w5,hw5⟩:∃w5,w5=wa.setCell ⟨b,12,none⟩ (.slice AO O.length cO):=⟨_,rfl⟩;rw[←hw5];have hg5:wa.grownBy w5 (some b):=by rw[hw5];exact Bi (p:=⟨b,12,none⟩) (Ai wa b) rfl _
       have hbw5:Below w3.heap.size w3 w5:=hbwa.grown hg5 hbwa.size (fun k hk=>by injection hk with hk;subst hk;exact hbw3);have hbx5:=hbx3.trans (hbw5.mono hbx3.size);have hV5:EU w5 b M (q:Int) (s:Int) f p AO cO mo O (owF s p f l):=⟨by rw[hw5];exact HBva.out.put 12 _,(HRO.out.kept hg5 (AB _) HNeO.out).more hg5.size,kl,HMva.out.kept hg5 (by intro e;injection e with e;exact J7 HMva.out HBva.out e),fun k r=>by obtain⟨z,h1,_,h3⟩:=HOwl.out k r;exact⟨z,h1,h3⟩⟩;have hR5:Rd w5 w5.heap.size A1 (D.flatMap vtc):=(HRa.out.kept hg5 (AB _) HNe1.out).more hg5.size;have hOv:∀v∈O,Ae v:=fun v hv=>(HDm.out v (HO.out.1.2 v hv).1).1
       have HE:Hid (Calls Tryz.prog 160 #[.pointer (some ⟨b,0,none⟩),.slice A1 nD c1,.slice AH nH cH] w5 (Cv (Eu M p s f D H (owF s p f l)) w5)):=QV hV5 A1 nD c1 D HND.out hR5 hD6 (fun v hv=>(HDm.out v hv).1) HD0'.out AH nH cH H HNH.out (HRH.out _ hbx5) hsmH;have HFi:Hid (∀V,Below w5.heap.size w5 V→Calls Tryz.prog 161 #[.pointer (some ⟨b,0,none⟩),.slice A1 nD c1,.bool wt] V (Cv (D0 M q p s f D wt (owF s p f l)) V)):=fun V hV=>Ok (hV5.below hV) HQe.out hq10 A1 nD c1 D HND.out ((hR5.below hV).more hV.size) hD6 (fun v hv=>(HDm.out v hv).1) HD0'.out wt
       have HPc:Hid (∀(r:Nat) V,Below w5.heap.size w5 V→Calls Tryz.prog 162 #[.pointer (some ⟨b,0,none⟩),.int .i64 (r:Int)] V (Cv (DI q p s f O (owF s p f l) r) V)):=fun r V hV=>Ji (hV5.below hV) hq10 hOv hO6 r
       have HPv:Hid (∀(r:Nat) V,r≤12→Below w5.heap.size w5 V→Calls Tryz.prog 163 #[.pointer (some ⟨b,0,none⟩),.int .i64 (r:Int)] V (Cv (JB p s f O (owF s p f l) (r:Int)) V)):=fun r V hr hV=>Lq (hV5.below hV) hq1 hq10 hOv hO6 r hr
       have HOa:Hid (Ea M p (s:Int) (spF s p l) O):=by unfold Hid;rw[←HDall.out];exact HO.out
       have HFd:Hid ((0≤f∧f≤9)∧(xOf M).testBit f.toNat=true):=⟨HF.out,HD0.out⟩;have NE:Hid (∀v,Eu M p s f D H (owF s p f l) (some v)→Ci M (B9 (At (xOf M) 10)) p s f l H wt (some v)):=fun v h=>by rw[←HQe.out];exact⟨HFd.out,HD0'.out,HOg.out,.inl (by rw[←HDall.out];exact h)⟩
       have NF:Hid (Eu M p s f D H (owF s p f l) none→∀v,D0 M q p s f D wt (owF s p f l) (some v)→Ci M (B9 (At (xOf M) 10)) p s f l H wt (some v)):=fun h0 v h=>by rw[←HQe.out];exact⟨HFd.out,HD0'.out,HOg.out,.inr ⟨by rw[←HDall.out];exact h0,.inl (by rw[←HDall.out];exact h)⟩⟩
       have NP:Hid (Eu M p s f D H (owF s p f l) none→D0 M q p s f D wt (owF s p f l) none→∀(r:Nat) v,1≤r→r≤12→(∀r':Int,1≤r'→r'<r→DI q p s f O (owF s p f l) r' none)→(DI q p s f O (owF s p f l) r (some v)∨((r:Int)<12∧DI q p s f O (owF s p f l) r none∧JB p s f O (owF s p f l) r (some v)))→Ci M (B9 (At (xOf M) 10)) p s f l H wt (some v)):=fun h0 h1 r v hr1 hr2 hno h=>by
        rw[←HQe.out];exact⟨HFd.out,HD0'.out,HOg.out,.inr ⟨by rw[←HDall.out];exact h0,.inr ⟨by rw[←HDall.out];exact h1,O,(r:Int),HOa.out,by omega,by omega,hno,h⟩⟩⟩
       have NN:Hid (Eu M p s f D H (owF s p f l) none→D0 M q p s f D wt (owF s p f l) none→(∀r:Int,1≤r→r≤12→DI q p s f O (owF s p f l) r none)→Ci M (B9 (At (xOf M) 10)) p s f l H wt none):=fun h0 h1 hno=>by
        rw[←HQe.out];exact .inr (.inr (.inr ⟨HOg.out,by rw[←HDall.out];exact h0,by rw[←HDall.out];exact h1,O,HOa.out,hno⟩))
       have hb55:Below w5.heap.size w5 w5:=AC _ _;have h15:w1.heap.size≤w5.heap.size:=hbx5.size;clear hw5 hg5 hV5 hR5 hOv y7 y8 HBva HMva HRa HO HRO;go_wp2_with fail
       refine HE.out.mono ?_;rintro en w6 ⟨o6,rfl,hR6,hb6⟩;have HR6:=AA hR6;have hbx6:=hbx5.trans (hb6.mono hbx5.size);clear hR6;cases o6 with
       |some v=>
        simp only[Ex,Option.isSome_some];go_upto_region 15 with(refine AJ rfl 46 (.tmp 20) (.tmp 113) rfl w6.heap.size v.cells rfl rfl 46 Bk.cells (Blk.new w6 _ _) (by rfl) (by kernel_rfl) (fun u hu=>BM v hu) ?_;intro wz6 hBz hgz hsz)
        have h5z6:Below w5.heap.size w5 wz6:=(hb6.alloc hb6.size _).grown hgz (AF hb6.size (by simp)) (fun k hk=>by injection hk with hk;subst hk;exact hb6.size);have hbz6:Below w1.heap.size w1 wz6:=(hbx6.alloc hbx6.size _).grown hgz (AF hbx6.size (by simp)) (fun k hk=>by injection hk with hk;subst hk;exact hbx6.size);have hb0z:=HB1.out.trans (hbz6.mono HB1.out.size);have xz:AK wz6 w6.heap.size 0 22=some v.cells:=hBz.row 22 rfl;obtain⟨zz,hzz⟩:∃zz,zz=w6.heap.size:=⟨_,rfl⟩;rw[←hzz]at xz ⊢;clear hzz hBz hgz hsz;go_wp2_with (refine AJ rfl 46 (.tmp 14) (.tmp 116) rfl g (v).cells rfl rfl 46 Ah (HG.out _ hbz6) rfl Ao (fun u hu=>BM _ hu) ?_;intro w9 hR9 hg9 hsz9)
        refine bodyPost_ret (Ab (g:=g) (cs:=(v).cells) rfl _ _ _ _ _ rfl hR9 Tryz.underlying46 rfl Ao) rfl ⟨some (v),rfl,NE.out v HR6.out,?_⟩;exact Below.grown (hb0z) hg9 (Below.size (hb0z)) (fun k hk=>by injection hk with hk;subst hk;exact hgw)
       |none=>
        simp only[Ex,Option.isSome_none];go_upto_region 15 with(refine AJ rfl 46 (.tmp 20) (.tmp 113) rfl w6.heap.size Ah rfl rfl 46 Bk.cells (Blk.new w6 _ _) (by rfl) (by kernel_rfl) (fun u hu=>CE hu) ?_;intro wz6 hBz hgz hsz)
        have h5z6:Below w5.heap.size w5 wz6:=(hb6.alloc hb6.size _).grown hgz (AF hb6.size (by simp)) (fun k hk=>by injection hk with hk;subst hk;exact hb6.size);have hbz6:Below w1.heap.size w1 wz6:=(hbx6.alloc hbx6.size _).grown hgz (AF hbx6.size (by simp)) (fun k hk=>by injection hk with hk;subst hk;exact hbx6.size);clear hBz hgz hsz;have HFi':=AA (HFi.out _ h5z6);go_wp2_with fail
        refine HFi'.out.mono ?_;rintro en w7 ⟨o7,rfl,hR7,hb7⟩;have HR7:=AA hR7;have hbx7:=hbz6.trans (hb7.mono hbz6.size);clear hR7;cases o7 with
        |some v=>
         simp only[Ex,Option.isSome_some];go_upto_region 18 with(refine AJ rfl 46 (.tmp 22) (.tmp 122) rfl w7.heap.size v.cells rfl rfl 46 Bk.cells (Blk.new w7 _ _) (by rfl) (by kernel_rfl) (fun u hu=>BM v hu) ?_;intro wz7 hBz hgz hsz)
         have h57:=h5z6.trans (hb7.mono h5z6.size);have h5z7:Below w5.heap.size w5 wz7:=(h57.alloc h57.size _).grown hgz (AF h57.size (by simp)) (fun k hk=>by injection hk with hk;subst hk;exact h57.size);have hbz7:Below w1.heap.size w1 wz7:=(hbx7.alloc hbx7.size _).grown hgz (AF hbx7.size (by simp)) (fun k hk=>by injection hk with hk;subst hk;exact hbx7.size);have hb0z:=HB1.out.trans (hbz7.mono HB1.out.size);have xz:AK wz7 w7.heap.size 0 22=some v.cells:=hBz.row 22 rfl;obtain⟨zz,hzz⟩:∃zz,zz=w7.heap.size:=⟨_,rfl⟩;rw[←hzz]at xz ⊢;clear hzz hBz hgz hsz;go_wp2_with (refine AJ rfl 46 (.tmp 14) (.tmp 125) rfl g (v).cells rfl rfl 46 Ah (HG.out _ hbz7) rfl Ao (fun u hu=>BM _ hu) ?_;intro w9 hR9 hg9 hsz9)
         refine bodyPost_ret (Ab (g:=g) (cs:=(v).cells) rfl _ _ _ _ _ rfl hR9 Tryz.underlying46 rfl Ao) rfl ⟨some (v),rfl,NF.out HR6.out v HR7.out,?_⟩;exact Below.grown (hb0z) hg9 (Below.size (hb0z)) (fun k hk=>by injection hk with hk;subst hk;exact hgw)
        |none=>
         simp only[Ex,Option.isSome_none];go_upto_region 18 with(refine AJ rfl 46 (.tmp 22) (.tmp 122) rfl w7.heap.size Ah rfl rfl 46 Bk.cells (Blk.new w7 _ _) (by rfl) (by kernel_rfl) (fun u hu=>CE hu) ?_;intro wz7 hBz hgz hsz)
         have h57:=h5z6.trans (hb7.mono h5z6.size);have h5z7:Below w5.heap.size w5 wz7:=(h57.alloc h57.size _).grown hgz (AF h57.size (by simp)) (fun k hk=>by injection hk with hk;subst hk;exact h57.size);have hbz7:Below w1.heap.size w1 wz7:=(hbx7.alloc hbx7.size _).grown hgz (AF hbx7.size (by simp)) (fun k hk=>by injection hk with hk;subst hk;exact hbx7.size);clear hBz hgz hsz;go_wp2
         go_loopw [24] (fun iv wr=>∃r:Nat,iv= .int .i64 (r:Int)∧1≤r∧r≤13∧Below w5.heap.size w5 wr∧∀r':Int,1≤r'→r'<r→DI q p s f O (owF s p f l) r' none) (fun iv _=>13-(intOf iv).toNat)
         case atStart=>exact⟨1,rfl,AB _,by omega,h5z7,fun r' h1 h2=>by omega⟩
         case round=>
          obtain⟨r,rfl,hr1,hr13,hbr,hno⟩:=hrel;have HNo:=AA hno;have hbxr':=hbx5.trans (hbr.mono h15);clear hno;by_cases hr:r≤12
          ·have dr:decide ((r:Int)≤12)=true:=by simp;omega
           have HPc':=AA (HPc.out r _ hbr);go_wp2_with fail
           refine HPc'.out.mono ?_;rintro en w8 ⟨o8,rfl,hR8,hb8⟩;have HR8:=AA hR8;have hbx8:=hbxr'.trans (hb8.mono hbxr'.size);clear hR8;cases o8 with
           |some v=>
            simp only[Ex,Option.isSome_some];go_upto_region 24 with(refine AJ rfl 46 (.tmp 25) (.tmp 134) rfl w8.heap.size v.cells rfl rfl 46 Bk.cells (Blk.new w8 _ _) (by rfl) (by kernel_rfl) (fun u hu=>BM v hu) ?_;intro wz8 hBz hgz hsz)
            have h58:=hbr.trans (hb8.mono hbr.size);have h5z8:Below w5.heap.size w5 wz8:=(h58.alloc h58.size _).grown hgz (AF h58.size (by simp)) (fun k hk=>by injection hk with hk;subst hk;exact h58.size);have hbz8:Below w1.heap.size w1 wz8:=(hbx8.alloc hbx8.size _).grown hgz (AF hbx8.size (by simp)) (fun k hk=>by injection hk with hk;subst hk;exact hbx8.size);have hb0z:=HB1.out.trans (hbz8.mono HB1.out.size);have xz:AK wz8 w8.heap.size 0 22=some v.cells:=hBz.row 22 rfl;obtain⟨zz,hzz⟩:∃zz,zz=w8.heap.size:=⟨_,rfl⟩;rw[←hzz]at xz ⊢;clear hzz hBz hgz hsz;go_wp2_with (refine AJ rfl 46 (.tmp 14) (.tmp 137) rfl g (v).cells rfl rfl 46 Ah (HG.out _ hbz8) rfl Ao (fun u hu=>BM _ hu) ?_;intro w9 hR9 hg9 hsz9)
            refine bodyPost_ret (Ab (g:=g) (cs:=(v).cells) rfl _ _ _ _ _ rfl hR9 Tryz.underlying46 rfl Ao) rfl ⟨some (v),rfl,NP.out HR6.out HR7.out r v hr1 hr HNo.out (.inl HR8.out),?_⟩;exact Below.grown (hb0z) hg9 (Below.size (hb0z)) (fun k hk=>by injection hk with hk;subst hk;exact hgw)
           |none=>
            simp only[Ex,Option.isSome_none];go_upto_region 24 with(refine AJ rfl 46 (.tmp 25) (.tmp 134) rfl w8.heap.size Ah rfl rfl 46 Bk.cells (Blk.new w8 _ _) (by rfl) (by kernel_rfl) (fun u hu=>CE hu) ?_;intro wz8 hBz hgz hsz)
            have h58:=hbr.trans (hb8.mono hbr.size);have h5z8:Below w5.heap.size w5 wz8:=(h58.alloc h58.size _).grown hgz (AF h58.size (by simp)) (fun k hk=>by injection hk with hk;subst hk;exact h58.size);have hbz8:Below w1.heap.size w1 wz8:=(hbx8.alloc hbx8.size _).grown hgz (AF hbx8.size (by simp)) (fun k hk=>by injection hk with hk;subst hk;exact hbx8.size);clear hBz hgz hsz;have HPv':=AA (HPv.out r _ hr h5z8);go_wp2_with fail
            refine HPv'.out.mono ?_;rintro en w9 ⟨o9,rfl,hR9,hb9⟩;have HR9:=AA hR9;have hbx9:=hbz8.trans (hb9.mono hbz8.size);clear hR9;cases o9 with
            |some v=>
             simp only[Ex,Option.isSome_some];go_upto_region 27 with(refine AJ rfl 46 (.tmp 27) (.tmp 142) rfl w9.heap.size v.cells rfl rfl 46 Bk.cells (Blk.new w9 _ _) (by rfl) (by kernel_rfl) (fun u hu=>BM v hu) ?_;intro wz9 hBz hgz hsz)
             have h59:=h5z8.trans (hb9.mono h5z8.size);have h5z9:Below w5.heap.size w5 wz9:=(h59.alloc h59.size _).grown hgz (AF h59.size (by simp)) (fun k hk=>by injection hk with hk;subst hk;exact h59.size);have hbz9:Below w1.heap.size w1 wz9:=(hbx9.alloc hbx9.size _).grown hgz (AF hbx9.size (by simp)) (fun k hk=>by injection hk with hk;subst hk;exact hbx9.size);have hb0z:=HB1.out.trans (hbz9.mono HB1.out.size);have xz:AK wz9 w9.heap.size 0 22=some v.cells:=hBz.row 22 rfl;obtain⟨zz,hzz⟩:∃zz,zz=w9.heap.size:=⟨_,rfl⟩;rw[←hzz]at xz ⊢;clear hzz hBz hgz hsz;by_cases hr12:r<12
             ·have d12:decide ((r:Int)<12)=true:=by simp;omega
              go_wp2_with (refine AJ rfl 46 (.tmp 14) (.tmp 149) rfl g (v).cells rfl rfl 46 Ah (HG.out _ hbz9) rfl Ao (fun u hu=>BM _ hu) ?_;intro w9 hR9 hg9 hsz9)
              refine bodyPost_ret (Ab (g:=g) (cs:=(v).cells) rfl _ _ _ _ _ rfl hR9 Tryz.underlying46 rfl Ao) rfl ⟨some (v),rfl,NP.out HR6.out HR7.out r v hr1 hr HNo.out (.inr ⟨by omega,HR8.out,HR9.out⟩),?_⟩;exact Below.grown (hb0z) hg9 (Below.size (hb0z)) (fun k hk=>by injection hk with hk;subst hk;exact hgw)
             ·have d12:decide ((r:Int)<12)=false:=by simp;omega
              have HNo':Hid (∀r':Int,1≤r'→r'<((r+1:Nat):Int)→DI q p s f O (owF s p f l) r' none):=fun r' h1 h2=>by
               by_cases h3:r'=(r:Int)
               ·rw[h3];exact HR8.out
               ·exact HNo.out r' h1 (by omega)
              go_wp2;go_roundw
              case rel=>exact⟨r+1,by go_num,by omega,by omega,h5z9,HNo'.out⟩
              case measure=>simp[intOf];omega
            |none=>
             simp only[Ex,Option.isSome_none];go_upto_region 27 with(refine AJ rfl 46 (.tmp 27) (.tmp 142) rfl w9.heap.size Ah rfl rfl 46 Bk.cells (Blk.new w9 _ _) (by rfl) (by kernel_rfl) (fun u hu=>CE hu) ?_;intro wz9 hBz hgz hsz)
             have h59:=h5z8.trans (hb9.mono h5z8.size);have h5z9:Below w5.heap.size w5 wz9:=(h59.alloc h59.size _).grown hgz (AF h59.size (by simp)) (fun k hk=>by injection hk with hk;subst hk;exact h59.size);have hbz9:Below w1.heap.size w1 wz9:=(hbx9.alloc hbx9.size _).grown hgz (AF hbx9.size (by simp)) (fun k hk=>by injection hk with hk;subst hk;exact hbx9.size);clear hBz hgz hsz;have HNo':Hid (∀r':Int,1≤r'→r'<((r+1:Nat):Int)→DI q p s f O (owF s p f l) r' none):=fun r' h1 h2=>by
              by_cases h3:r'=(r:Int)
              ·rw[h3];exact HR8.out
              ·exact HNo.out r' h1 (by omega)
             go_wp2;go_roundw
             case rel=>exact⟨r+1,by go_num,by omega,by omega,h5z9,HNo'.out⟩
             case measure=>simp[intOf];omega
          ·have dr:decide ((r:Int)≤12)=false:=by simp;omega
           have hb0r:=HB1.out.trans (hbxr'.mono HB1.out.size);go_wp2_with (refine AJ rfl 46 (.tmp 14) (.tmp 150) rfl g Ah rfl rfl 46 Ah (HG.out _ hbxr') rfl Ao (fun u hu=>CE hu) ?_;intro w9 hR9 hg9 hsz9)
           refine bodyPost_ret (Ab (g:=g) (cs:=Ah) rfl _ _ _ _ _ rfl hR9 Tryz.underlying46 rfl Ao) rfl ⟨none,rfl,NN.out HR6.out HR7.out (fun r' h1 h2=>HNo.out r' h1 (by omega)),?_⟩;exact Below.grown (hb0r) hg9 (Below.size (hb0r)) (fun k hk=>by injection hk with hk;subst hk;exact hgw)
end
end Go.Proofs.YtadllffeoibelaaGreat
