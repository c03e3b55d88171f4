/-
  Parts of the proof. No condition.
-/
import Derived.Test.YtadllffeoibelaaGreatS18
open Go.Proofs.Tryz
namespace Go.Proofs.YtadllffeoibelaaGreat
set_option maxRecDepth 100000
set_option maxHeartbeats 32000000
set_option linter.all false
section
open Go.RowKit Go.Shelf
attribute [local go_sem ↓] Go.wp_at_zero Go.wp_at_succ Aj Ao Ap Aq Dv
attribute [local go_sem] Ax BB BC BD Fd AK AR AN
def YS(l:List Vt)(s:Nat)(p:Nm)(M q f:Int)(b mo:Nat)(w:World)(v iv:Value)(wr:World):Prop:=
 ∃(i:Nat) (D:List Vt) (kl:List ((Int×Int)×Value)),iv= .int .i64 (i:Int)/\i<=l.length/\D.length<=i/\D=spF s p (l.take i)/\wr.ownsRow w.heap.size 46 22 v D.length (D.flatMap vtc)/\
  Blk wr b 229 (Cz M q s f p none 0 0 mo)/\Bp DZ wr mo kl/\OwB s p f (l.take i) i kl/\ZN w wr
theorem Kg{w:World}{base e size n:Nat}{v:Value}{xs:List Value}(h:w.ownsRow base e size v n xs):∃A c,v= .slice A n c/\Rd w w.heap.size A xs/\∀p',A=some p'->(Value.slice A n c).ownBlock=some p'.block:=by
 rcases h.2 with⟨rfl,h0⟩|⟨g,cap,cur,rfl,_⟩
 ·exact⟨none,0,by rw[h0],.inl (AV (by rw[h.1,h0,Nat.zero_mul])),fun p' h=>(by cases h)⟩
 ·exact⟨_,cap,rfl,Rd.of_own h,fun p' h=>by injection h with h;subst h;rfl⟩
theorem XW(n:Nat):CH n<=n:=Nat.sub_le _ _
theorem TV(M:Int)(p:Nm)(A:Option Addr)(n c:Nat)(l:List Vt)(s:Nat)(f:Int)(AH:Option Addr)(nH cH:Nat)(H:List Nm)(wt:Bool)(w0:World)(hn:l.length=n)(hr:Rd w0 w0.heap.size A (l.flatMap vtc))(hsm:n<=1000000)(hl:∀v∈l,Ab v)(hs9:s<=9)(hf:0<=f/\f<=9)(hnH:H.length=nH)(hrH:Rd w0 w0.heap.size AH (H.flatMap nmc))(hDw:nH<=1000000):Calls prog 111 #[.int .i64 M,p.val,.slice A n c,.int .i64 (s:Int),.int .i64 f,.slice AH nH cH,.bool wt] w0 (DO (C4 M (CH (Aw (xOf M) 10)) p s f l H wt) w0):=by
 obtain⟨w,hw⟩:=ZH (w0.alloc (.cells p.cells 24));obtain⟨w1,hw1⟩:=ZH (w.alloc (.cells Ad 46));have hs1:w.heap.size=w0.heap.size+1:=by rw[hw];simp
 have hb0:ZN w0 w:=by rw[hw];exact(AC _ _).alloc (AB _) _
 have hb1:ZN w0 w1:=by rw[hw1];exact hb0.alloc hb0.size _
 obtain⟨qb,hqb⟩:=ZH w0.heap.size;obtain⟨g,hg⟩:=ZH (w0.heap.size+1);have hQ1:Blk w1 qb 24 p.cells:=by rw[hw1,hw,hqb];exact(Blk.new w0 _ _).alloc _
 have hG1:Blk w1 g 46 Ad:=by rw[hw1,hg,<-hs1];exact Blk.new w _ _
 have hgw:w0.heap.size<=g:=by omega
 have hgl:g<w1.heap.size:=hG1.lt;have HG:Hid (∀V,ZN w1 V->Blk V g 46 Ad):=fun V hV=>hG1.below hV hG1.lt
 have HQ:Hid (∀V,ZN w1 V->AJ V qb 0 8=some p.cells):=fun V hV=>(hQ1.below hV hQ1.lt).row 8 rfl
 have HRl:Hid (∀V,ZN w1 V->Rd V w0.heap.size A (l.flatMap vtc)):=fun V hV=>hr.below (hb1.trans (hV.mono hb1.size))
 have HRH:Hid (∀V,ZN w1 V->Rd V V.heap.size AH (H.flatMap nmc)):=fun V hV=>(hrH.below (hb1.trans (hV.mono hb1.size))).more (AG hb1.size hV.size)
 obtain⟨d,hd⟩:=ZH ((xOf M).testBit f.toNat);obtain⟨d',hd'⟩:=ZH ((xOf M).testBit s);have HHa:Hid (∀W,Calls prog 19 #[.int .i64 M,.int .i64 f] W fun e w'=>e= .returned (.bool d)/\w'=W):=fun W=>by rw[hd];exact Do M f hf.1 hf.2 W
 have HHb:Hid (∀W,Calls prog 19 #[.int .i64 M,.int .i64 (s:Int)] W fun e w'=>e= .returned (.bool d')/\w'=W):=fun W=>by rw[hd'];exact Ff M s (by omega) W
 have hDz:Hid (d'=true->Calls prog 79 #[.int .i64 M,p.val,.slice A n c,.int .i64 (s:Int)] w1 (Ka M p s l w1)):=fun h=>Ni M p A n c l s w1 hn ((hr.below hb1).more hb1.size) hsm hl (by rw[<-hd'];exact h)
 have hl6:l.length<=1000000:=by omega
 have HF:=AA hf;have HN:=AA hn;have HL:=AA hl;have HNH:=AA hnH;have HB1:=AA hb1;have HW:=AA hw;have HW1:=AA hw1;have HGg:=AA hg;have HQb:=AA hqb;have HD0:=AA hd.symm;have zS:=AA hd'.symm;have hbx:ZN w1 w1:=AC _ _;clear hw hw1 hs1 hb0 hb1 hqb hg hQ1 hG1 hr hrH hd hd' hf hn hl hnH;go_enter func111,ntmps111;go_upto_region 1 with fail
 simp only[<-HW.out,<-HW1.out,<-HGg.out];simp only[<-HQb.out];go_wp2_with fail
 refine(HHa.out _).mono ?_;rintro en w2 ⟨rfl,hw2⟩;replace hw2:=hw2.symm;subst hw2;clear HHa;cases d with
 |false=>
  go_wp2_with (refine AI rfl 46 (.tmp 14) (.tmp 48) rfl g Ad rfl rfl 46 Ad (HG.out _ hbx) rfl Au (fun u hu=>CR hu) ?_;intro w9 hR9 hg9 xu)
  refine bodyPost_ret (AW (g:=g) (cs:=Ad) rfl _ _ _ _ _ rfl hR9 underlying46 rfl Au) rfl ⟨none,rfl,.inl (fun h=>by have h1:=HD0.out;rw[h.2]at h1;cases h1),?_⟩;exact Below.grown (HB1.out) hg9 (Below.size (HB1.out)) (ZJ hgw)
 |true=>
  go_wp2_with fail
  refine(HHb.out _).mono ?_;rintro en w2 ⟨rfl,hw2⟩;replace hw2:=hw2.symm;subst hw2;clear HHb;cases d' with
  |false=>
   go_wp2_with (refine AI rfl 46 (.tmp 14) (.tmp 48) rfl g Ad rfl rfl 46 Ad (HG.out _ hbx) rfl Au (fun u hu=>CR hu) ?_;intro w9 hR9 hg9 xu)
   refine bodyPost_ret (AW (g:=g) (cs:=Ad) rfl _ _ _ _ _ rfl hR9 underlying46 rfl Au) rfl ⟨none,rfl,.inr (.inl zS.out),?_⟩;exact Below.grown (HB1.out) hg9 (Below.size (HB1.out)) (ZJ hgw)
  |true=>
   have y1:AJ w1 qb 0 8=some p.cells:=HQ.out _ hbx;have hEX:=AA (hDz.out rfl);clear hDz;go_wp2_with fail
   refine hEX.out.mono ?_;rintro en w3 ⟨v3,L,rfl,hL3,hLn,xD,hb3⟩;have xI:=hbx.trans hb3;have xj:=HB1.out.trans (xI.mono HB1.out.size);obtain⟨A3,c3,rfl,hR3⟩:=Bj xD;clear hR3 xD hb3 hEX y1;obtain⟨nL,hnL⟩:=ZI L.length;rw[hnL]at hLn ⊢;have HNL:=AA hnL;have HL3:=AA hL3;clear hnL hL3;rcases Nat.eq_zero_or_pos nL with h0|h0
   rotate_left
   ·have dn:=ZK (show 0<nL by omega)
    go_wp2_with (refine AI rfl 46 (.tmp 14) (.tmp 48) rfl g Ad rfl rfl 46 Ad (HG.out _ xI) rfl Au (fun u hu=>CR hu) ?_;intro w9 hR9 hg9 xu)
    refine bodyPost_ret (AW (g:=g) (cs:=Ad) rfl _ _ _ _ _ rfl hR9 underlying46 rfl Au) rfl ⟨none,rfl,.inr (.inr (.inl ⟨L,HL3.out,fun e=>by have h1:=HNL.out;rw[e]at h1;simp at h1;omega⟩)),?_⟩;exact Below.grown (xj) hg9 (Below.size (xj)) (ZJ hgw)
   ·subst h0;have hEY:L=[]:=AV HNL.out;have HOg:Hid (KZ M p s l []):=by unfold Hid;rw[<-hEY];exact HL3.out
    clear hEY HL3 HNL;have yF:0<Aw (xOf M) 10:=Qj zS.out;obtain⟨q,hq⟩:=ZH (CH (Aw (xOf M) 10));have hq1:1<=q:=by rw[hq];exact KK yF
    have yt:q<=10:=by rw[hq];exact AG (XW _) (Fw _ _)
    have HSz:Hid (∀W,Calls prog 15 #[.int .i64 M] W fun e w'=>e= .returned (.int .i64 ((Aw (xOf M) 10:Nat):Int))/\w'=W):=fun W=>Ct M W
    have HQu:Hid (∀W,Calls prog 115 #[.int .i64 ((Aw (xOf M) 10:Nat):Int)] W fun e w'=>e= .returned (.int .i64 (q:Int))/\w'=W):=fun W=>by rw[hq];exact F4 _ (Fw _ _) W
    have HQe:=AA hq;obtain⟨a,ha⟩:=ZH (Aw (xOf M) 10);rw[<-ha]at HSz HQu;clear yF hq ha;have hmk:∀W:World,(Instr.makeMap 227 none).run prog W= .ok (.map (some W.heap.size)) (W.alloc (.map #[] 0)):=fun W=>rfl
    go_upto_region 4 with fail
    go_cut[17] (fun sv wx=>∃b mo,sv= .pointer (some ⟨b,0,none⟩)/\Blk wx b 229 (Cz M q s f p none 0 0 mo)/\Bp DZ wx mo []/\w3.heap.size<=b/\w3.heap.size<=mo/\ZN w3 wx)
    case first=>
     refine rgD (fun V=>AJ V qb 0 8=some p.cells) (HQ.out _ (xI.trans (AC _ _).drew)) fun _=>?_
     iterate 2 (refine tkA ?_;go_frame)
     refine tkD 53 4 ?_;go_frame;refine tkD 54 5 ?_;go_frame;refine tkD 55 6 ?_;go_frame;refine rd2 2 7 (fun K hK=>?_) fun K hK=>?_
     ·go_simp;refine(HSz.out _).mono ?_;rintro en w5 ⟨rfl,hw5⟩;replace hw5:=hw5.symm;subst hw5;go_wp2_with fail
      refine hK.out _ _ (HQ.out _ (xI.trans (AC _ _).drew)) (fun _=>?_);clear hK K;try go_frame
      refine rd2 3 7 (fun K hK=>?_) fun K hK=>?_
      ·go_simp;refine(HQu.out _).mono ?_;rintro en w5 ⟨rfl,hw5⟩;replace hw5:=hw5.symm;subst hw5;go_wp2_with fail
       refine hK.out _ _ (HQ.out _ (xI.trans (AC _ _).drew)) (fun _=>?_);clear hK K;try go_frame
       refine rd1 7 fun K hK=>?_
       go_simp;refine hK.out _ _ (HQ.out _ (xI.trans ((AC _ w3).alloc xI.size _).drew)) (fun _=>?_);clear hK K;try go_frame
       refine tkV 57 8 (.agg (Cz M q s f p none 0 0 w3.heap.size)) (fun wq _=>GK M q s f p w3.heap.size (.tmp 49) (.tmp 52) (.tmp 53) (.tmp 54) (.tmp 55) (.tmp 56) rfl rfl rfl rfl rfl rfl rfl wq) ?_;go_frame;refine rd1 9 fun K hK=>?_
       go_simp;refine hK.out _ _ (HQ.out _ (xI.trans (((AC _ w3).alloc xI.size _).alloc (AG xI.size (by simp)) _).drew)) (fun _=>?_);clear hK K;try go_frame
       refine tkD 17 10 ?_;go_frame;refine dnD ?_;go_wp2_with fail
       go_meet;refine⟨w3.heap.size+1,w3.heap.size,?_,?_,?_,Nat.le_succ _,AB _,?_⟩
       ·first|rfl|simp
       ·have:=Blk.new (w3.alloc (.map #[] 0)) 229 (Cz M q s f p none 0 0 w3.heap.size);rwa[World.size_alloc]at this
       ·exact(Bp.new DZ w3).alloc _
       ·exact(((AC w3.heap.size w3).alloc (AB _) _).alloc (by simp) _).drew
      ·go_simp;refine hK.out _ _ (HQ.out _ (xI.trans ((AC _ w3).alloc xI.size _).drew)) (fun _=>?_);clear hK K;try go_frame
       refine rd1 3 fun K hK=>?_
       go_simp;refine(HQu.out _).mono ?_;rintro en w5 ⟨rfl,hw5⟩;replace hw5:=hw5.symm;subst hw5;go_wp2_with fail
       refine hK.out _ _ (HQ.out _ (xI.trans ((AC _ w3).alloc xI.size _).drew)) (fun _=>?_);clear hK K;try go_frame
       refine tkV 57 8 (.agg (Cz M q s f p none 0 0 w3.heap.size)) (fun wq _=>GK M q s f p w3.heap.size (.tmp 49) (.tmp 52) (.tmp 53) (.tmp 54) (.tmp 55) (.tmp 56) rfl rfl rfl rfl rfl rfl rfl wq) ?_;go_frame;refine rd1 9 fun K hK=>?_
       go_simp;refine hK.out _ _ (HQ.out _ (xI.trans (((AC _ w3).alloc xI.size _).alloc (AG xI.size (by simp)) _).drew)) (fun _=>?_);clear hK K;try go_frame
       refine tkD 17 10 ?_;go_frame;refine dnD ?_;go_wp2_with fail
       go_meet;refine⟨w3.heap.size+1,w3.heap.size,?_,?_,?_,Nat.le_succ _,AB _,?_⟩
       ·first|rfl|simp
       ·have:=Blk.new (w3.alloc (.map #[] 0)) 229 (Cz M q s f p none 0 0 w3.heap.size);rwa[World.size_alloc]at this
       ·exact(Bp.new DZ w3).alloc _
       ·exact(((AC w3.heap.size w3).alloc (AB _) _).alloc (by simp) _).drew
     ·go_simp;refine hK.out _ _ (HQ.out _ (xI.trans ((AC _ w3).alloc xI.size _).drew)) (fun _=>?_);clear hK K;try go_frame
      refine rd1 2 fun K hK=>?_
      go_simp;refine(HSz.out _).mono ?_;rintro en w5 ⟨rfl,hw5⟩;replace hw5:=hw5.symm;subst hw5;go_wp2_with fail
      refine hK.out _ _ (HQ.out _ (xI.trans ((AC _ w3).alloc xI.size _).drew)) (fun _=>?_);clear hK K;try go_frame
      refine rd1 3 fun K hK=>?_
      go_simp;refine(HQu.out _).mono ?_;rintro en w5 ⟨rfl,hw5⟩;replace hw5:=hw5.symm;subst hw5;go_wp2_with fail
      refine hK.out _ _ (HQ.out _ (xI.trans ((AC _ w3).alloc xI.size _).drew)) (fun _=>?_);clear hK K;try go_frame
      refine tkV 57 8 (.agg (Cz M q s f p none 0 0 w3.heap.size)) (fun wq _=>GK M q s f p w3.heap.size (.tmp 49) (.tmp 52) (.tmp 53) (.tmp 54) (.tmp 55) (.tmp 56) rfl rfl rfl rfl rfl rfl rfl wq) ?_;go_frame;refine rd1 9 fun K hK=>?_
      go_simp;refine hK.out _ _ (HQ.out _ (xI.trans (((AC _ w3).alloc xI.size _).alloc (AG xI.size (by simp)) _).drew)) (fun _=>?_);clear hK K;try go_frame
      refine tkD 17 10 ?_;go_frame;refine dnD ?_;go_wp2_with fail
      go_meet;refine⟨w3.heap.size+1,w3.heap.size,?_,?_,?_,Nat.le_succ _,AB _,?_⟩
      ·first|rfl|simp
      ·have:=Blk.new (w3.alloc (.map #[] 0)) 229 (Cz M q s f p none 0 0 w3.heap.size);rwa[World.size_alloc]at this
      ·exact(Bp.new DZ w3).alloc _
      ·exact(((AC w3.heap.size w3).alloc (AB _) _).alloc (by simp) _).drew
    case rest=>
     obtain⟨b,mo,rfl,hB4,hM4,xJ,hHL,hb4⟩:=hcut;generalize wc=w4 at*;have xw:=xI.trans (hb4.mono xI.size);have zF:=HB1.out.trans (xw.mono HB1.out.size);have hbl:b<w4.heap.size:=hB4.lt;have hml:mo<w4.heap.size:=hM4.is.lt;have hbg:w0.heap.size<=b:=AG xj.size xJ;have HB4:=AA hB4;have HM4:=AA hM4;clear hB4 hM4;go_wp2
     go_loopw [16,61] (fun v iv wr=>YS l s p M q f b mo w3 v iv wr) (fun _ iv _=>n-(intOf iv).toNat)
     case atStart=>exact⟨0,[],[],rfl,Nat.zero_le _,Nat.zero_le _,by simp[spF],⟨by simp,.inl ⟨rfl,rfl⟩⟩,HB4.out,HM4.out,OwB.nil s p f,hb4⟩
     case round=>
      obtain⟨i,D,kl,rfl,hin,hDi,hD,xA,hBv,hMv,how,hbw⟩:=hrel;rw[HN.out]at hin;have HDe:=AA hD;have xK:=AA xA;have HBv:=AA hBv;have HMv:=AA hMv;have HOw:=AA how;have hD6:D.length<=1000000:=by omega
      have yj:=xI.trans (hbw.mono xI.size);clear hD xA hBv hMv how;by_cases hi:i<n
      ·have di:=ZK (show i<n by omega)
       obtain⟨x,hx⟩:∃x,l[i]? =some x:=⟨_,AD (by rw[HN.out];exact hi)⟩;obtain⟨b0,o,rfl,hb,xH⟩:=(HRl.out _ hbx).cells (by intro e;have:=AY vtc 22 l (Cd l);rw[e,HN.out]at this;simp at this;omega);clear xH;have x1:AJ wr b0 (o+i*22) 22=some x.cells:=(HRl.out _ yj).voteRow hx;have HXx:=AA hx;have HXv:=AA (HL.out x (AM hx));clear hx;go_upto_region 8 with(refine AI rfl 46 (.tmp 19) (.tmp 64) rfl wr.heap.size x.cells rfl rfl 46 Bi.cells (Blk.new wr _ _) (by rfl) (by kernel_rfl) (fun u hu=>BO x hu) ?_;intro w5 hB5 hg5 yp)
       have xx:Hid (w5.ownsRow w3.heap.size 46 22 u16 D.length (D.flatMap vtc)):=Bb (xK.out.alloc _) hg5 (fun k hk=>by
        injection hk with hk
        subst hk;right;intro e;have:=(xK.out.lt _ e).2;omega)
       have xP:ZN w3 w5:=(hbw.alloc hbw.size _).grown hg5 (AG hbw.size (by simp)) (ZJ hbw.size);have hD0:Hid (Blk w5 b 229 (Cz M q s f p none 0 0 mo)):=(HBv.out.alloc _).kept hg5 (by intro e;injection e with e;have:=HBv.out.lt;omega);have hD3:Hid (Bp DZ w5 mo kl):=(HMv.out.alloc _).kept hg5 (by intro e;injection e with e;have:=HMv.out.is.lt;omega);obtain⟨z,hz⟩:=ZH wr.heap.size;have HZr:Hid (some z≠u16.ownBlock):=by
        intro e;rw[hz]at e;have:=(xK.out.lt _ e.symm).2;omega
       rw[<-hz]at hB5 ⊢;have hzb:z≠b:=by have:=HBv.out.lt;omega
       have hzm:z≠mo:=by have:=HMv.out.is.lt;omega
       have hzq:w3.heap.size<=z:=by rw[hz];exact hbw.size
       have xX:=xI.trans (xP.mono xI.size);have x3:AJ w5 z 0 22=some x.cells:=hB5.row 22 rfl;have x4:w5.cell? ⟨z,1,none⟩=some (.int .i64 x.slot):=hB5.cell 1;have x6:AJ w5 z 6 8=some x.parent.cells:=x.row_parent hB5;have y5:AJ w5 qb 0 8=some p.cells:=HQ.out _ xX;have HZ5:=AA hB5;clear hB5 hg5 yp x1 hz xK hbw yj;try go_frame
       by_cases h1:x.slot=(s:Int)
       rotate_left
       ·have e1:(x.slot==(s:Int))=false:=by simpa using h1
        have HSl:=AA h1;clear h1;go_wp2;go_roundw
        case rel=>exact⟨i+1,D,kl,by go_num,by rw[HN.out];omega,by omega,(by rw[Kf HXx.out (fun h=>HSl.out h.1)];exact HDe.out),xx.out,hD0.out,hD3.out,HOw.out.miss HXx.out (fun h=>HSl.out h.1),xP⟩
        case measure=>simp[intOf];omega
       have e1:(x.slot==(s:Int))=true:=by rw[h1];exact beq_self_eq_true _
       have HSl:=AA h1;clear h1;by_cases h2:x.parent=p
       rotate_left
       ·have e2:∀W,(Op.equalIn 10000 24 (.agg x.parent.cells) (.agg p.cells)).run prog W= .ok false W:=fun W=>by
         have h:=ED x.parent p W 9998;rwa[decide_eq_false h2]at h
        have HPa:=AA h2;clear h2;go_wp2;go_roundw
        case rel=>exact⟨i+1,D,kl,by go_num,by rw[HN.out];omega,by omega,(by rw[Kf HXx.out (fun h=>HPa.out h.2)];exact HDe.out),xx.out,hD0.out,hD3.out,HOw.out.miss HXx.out (fun h=>HPa.out h.2),xP⟩
        case measure=>simp[intOf];omega
       have e2:∀W,(Op.equalIn 10000 24 (.agg x.parent.cells) (.agg p.cells)).run prog W= .ok true W:=fun W=>by
        have h:=ED x.parent p W 9998;rwa[decide_eq_true h2]at h
       have HPa:=AA h2;clear h2;go_wp2_with ((first
        |(refine BS rfl 56 46 (.tmp 76) rfl x.cells rfl underlying56 (by kernel_rfl) (by decide) (by decide) ?_)
        |(at_builtin;refine Ar rfl (.tmp 75) (.tmp 77) _ rfl w3.heap.size 46 (.agg Bi.cells) 22 64 underlying56 CG rfl (by decide) u16 D.length (D.flatMap vtc) rfl ?r0 (w5.heap.size+1) (some ⟨w5.heap.size,0,none⟩) 1 1 (vtc x) rfl ?r1 ?r2 ?r3 ?r4 ?r5 ?r6 ?_)))
       case r0=>exact xx.out.alloc _
       case r1=>rfl
       case r2=>exact Rd.mk (by omega) (fun j u hu=>by rw[Nat.zero_add,(Blk.new w5 _ _).cell];simpa using hu)
       case r3=>exact fun u hu=>BO x hu
       case r4=>omega
       case r5=>unfold maxLen;omega
       case r6=>have:=xP.size;simp;omega
       intro v7 w7 xL hg7 xr;have yR:ZN w3 w7:=BJ (xP.alloc xP.size _) (xx.out.alloc _) hg7;have hFJ:Hid (Blk w7 b 229 (Cz M q s f p none 0 0 mo)):=(hD0.out.alloc _).kept hg7 (CJ xx.out hD0.out (by decide));have hD5:Hid (Bp DZ w7 mo kl):=(hD3.out.alloc _).kept hg7 (L6 hD3.out xx.out);have hzr:=HZr.out;have HZ7:Hid (Blk w7 z 46 x.cells):=(HZ5.out.alloc _).kept hg7 hzr;have xU:=AA xL;have xb:=xI.trans (yR.mono xI.size);have x7:w7.cell? ⟨z,4,none⟩=some (.int .i64 x.signer):=HZ7.out.cell 4;have x8:AJ w7 z 0 22=some x.cells:=HZ7.out.row 22 rfl;have HDn:Hid (D++[x]=spF s p (l.take (i+1))):=by unfold Hid;rw[Mi HXx.out HSl.out HPa.out,<-HDe.out]
       have HOr:Hid (∀W,w7.grownBy W (some mo)->W.ownsRow w3.heap.size 46 22 v7 (D++[x]).length ((D++[x]).flatMap vtc)):=fun W hW=>by
        have h:=Bb xU.out hW (ZJ (.inr (fun e=>L6 hD5.out xU.out e.symm)));rw[AF,Af];simpa using h
       have HDl:Hid ((D++[x]).length<=i+1):=by unfold Hid;rw[AF,List.length_singleton];omega
       clear xL hg7 xr x3 x4 x6 y5 xx hzr;by_cases h3:x.signer=f
       rotate_left
       ·have e3:(x.signer==f)=false:=by simpa using h3
        have hDE:=AA (HOw.out.other HXx.out HSl.out HPa.out h3);clear h3;go_wp2;go_roundw
        case rel=>exact⟨i+1,D++[x],kl,by go_num,by rw[HN.out];omega,HDl.out,HDn.out,HOr.out _ (Am w7 mo),hFJ.out,hD5.out,hDE.out,yR⟩
        case measure=>simp[intOf];omega
       have e3:(x.signer==f)=true:=by rw[h3];exact beq_self_eq_true _
       have HSg:=AA h3;have zD:Hid (∀W,Calls prog 49 #[x.val] W (Ac W true)):=fun W=>by
        have h:=DA x W ⟨by have:=HXv.out.2.2.2.1;omega,by have:=HXv.out.2.2.2.1;omega⟩;rwa[decide_eq_true HXv.out]at h
       clear h3;go_upto_region 11 with(go_at_call 49;refine(zD.out _).mono ?_;rintro en w8 ⟨rfl,hb8⟩)
       have hBM:=yR.trans (hb8.mono yR.size);have HZ8:Hid (Blk w8 z 46 x.cells):=HZ7.out.below hb8 HZ7.out.lt;have hD8:Hid (Blk w8 b 229 (Cz M q s f p none 0 0 mo)):=hFJ.out.below hb8 hFJ.out.lt;have hBm:Hid (Bp DZ w8 mo kl):=hD5.out.below hb8 hD5.out.is.lt;have hHM:Hid (w7.grownBy w8 (some mo)):=Bu hb8;have yI:=xI.trans (hBM.mono xI.size);obtain⟨zn,hzn,hzi,hzd⟩:=HOw.out x.kind x.round;have HZn:=AA hzn;have hwz:IntKind.i64.wrap ((zn:Int)+1)=((zn+1:Nat):Int):=by rw[IntKind.wrap_i64];omega
       have hbm:b≠mo:=fun e=>L8 hBm.out hD8.out e.symm
       have HS:Hid (∀V,w8.grownBy V (some mo)->V.cell? ⟨b,13,none⟩=some (.map (some mo))/\V.cell? ⟨z,0,none⟩=some (.int .i64 x.kind)/\V.cell? ⟨z,2,none⟩=some (.int .i64 x.round)):=fun V hV=>
        ⟨(hD8.out.kept hV (by intro e;injection e with e;exact hbm e)).cell 13,(HZ8.out.kept hV (by intro e;injection e with e;exact hzm e)).cell 0,(HZ8.out.kept hV (by intro e;injection e with e;exact hzm e)).cell 2⟩
       clear hzn hzd zD x7 x8 hb8 HBv HMv;refine rgD (fun V=>V.cell? ⟨b,13,none⟩=some (.map (some mo))/\V.cell? ⟨z,0,none⟩=some (.int .i64 x.kind)/\V.cell? ⟨z,2,none⟩=some (.int .i64 x.round)) (HS.out _ (Bd (Am w8 mo))) fun _=>?_
       iterate 9 (refine tkA ?_;go_frame)
       refine rd2 9 11 (fun K hK=>?_) fun K hK=>?_
       ·rw[if_pos (by rfl)];refine CC (.int .i64 (zn:Int)) ((L5 (.tmp 90) (.tmp 95) rfl mo (x.kind,x.round) rfl rfl (w:=w8.drew) (hBm.out.below (AC w8.heap.size w8).drew hBm.out.is.lt)).trans (by rw[HZn.out])) ?_;refine hK.out _ _ (HS.out _ (Bd (Am w8 mo))) (fun _=>?_);clear hK K;try go_frame
        refine tkD 97 10 ?_;go_frame;refine rd1 11 fun K hK=>?_
        rw[if_pos (by rfl)];refine Qf (.tmp 90) (.tmp 95) rfl mo (x.kind,x.round) rfl rfl (w:=w8.drew) (hBm.out.below (AC w8.heap.size w8).drew hBm.out.is.lt) ?_;intro w9 b9 v9 kl9 hE9 hA9 hg9 hs9;have hHN:Hid ((BQ (x.kind,x.round) kl9).getD (.int .i64 0)= .int .i64 (zn:Int)):=by(unfold Hid;rw[hA9 (x.kind,x.round),if_pos rfl,Option.getD_some];exact HZn.out)
        have HA9:=AA hA9;have hCe:Hid (w8.grownBy w9 (some mo)):=(Bd (Am w8 mo)).trans hg9;have HE9:=AA hE9;clear hE9 hA9 hg9;refine hK.out _ _ (HS.out _ hCe.out) (fun _=>?_);clear hK K;try go_frame
        refine tkD 99 12 ?_;go_frame;refine rd1 13 fun K hK=>?_
        rw[if_pos (by rfl)];refine Qg (.tmp 90) (.tmp 99) (.tmp 97) rfl mo b9 (x.kind,x.round) (.int .i64 ((zn+1:Nat):Int)) rfl rfl (by first|rfl|(rw[<-hwz];rfl)) (w:=w9) HE9.out ?_;intro w10 kl10 hDF hDG yJ hEy;have hFK:=AA hDF;have zp:Hid (w8.grownBy w10 (some mo)):=hCe.out.trans yJ;have hDH:=AA hDG;clear hDF hDG yJ;refine hK.out _ _ (HS.out _ zp.out) (fun _=>?_);clear hK K;try go_frame
        refine dnD ?_;have hDE:=AA (HOw.out.hit HXx.out HSl.out HPa.out HSg.out HZn.out HA9.out hFK.out);have zq:Hid (w7.grownBy w10 (some mo)):=hHM.out.trans zp.out;have hBN:ZN w3 w10:=yR.grown zq.out yR.size (ZJ hHL);go_wp2_with fail
        go_roundw
        case rel=>exact⟨i+1,D++[x],kl10,by go_num,by rw[HN.out];omega,HDl.out,HDn.out,HOr.out _ zq.out,hD8.out.kept zp.out (by intro e;injection e with e;exact hbm e),hDH.out,hDE.out,hBN⟩
        case measure=>simp[intOf];omega
       ·rw[if_pos (by rfl)];refine Qf (.tmp 90) (.tmp 95) rfl mo (x.kind,x.round) rfl rfl (w:=w8.drew) (hBm.out.below (AC w8.heap.size w8).drew hBm.out.is.lt) ?_;intro w9 b9 v9 kl9 hE9 hA9 hg9 hs9;have hHN:Hid ((BQ (x.kind,x.round) kl9).getD (.int .i64 0)= .int .i64 (zn:Int)):=by(unfold Hid;rw[hA9 (x.kind,x.round),if_pos rfl,Option.getD_some];exact HZn.out)
        have HA9:=AA hA9;have hCe:Hid (w8.grownBy w9 (some mo)):=(Bd (Am w8 mo)).trans hg9;have HE9:=AA hE9;clear hE9 hA9 hg9;refine hK.out _ _ (HS.out _ hCe.out) (fun _=>?_);clear hK K;try go_frame
        refine tkD 99 12 ?_;go_frame;refine rd1 9 fun K hK=>?_
        rw[if_pos (by rfl)];refine CC (.int .i64 (zn:Int)) ((L5 (.tmp 90) (.tmp 95) rfl mo (x.kind,x.round) rfl rfl (w:=w9) HE9.out.isB).trans (by rw[hHN.out])) ?_;refine hK.out _ _ (HS.out _ hCe.out) (fun _=>?_);clear hK K;try go_frame
        refine tkD 97 10 ?_;go_frame;refine rd1 13 fun K hK=>?_
        rw[if_pos (by rfl)];refine Qg (.tmp 90) (.tmp 99) (.tmp 97) rfl mo b9 (x.kind,x.round) (.int .i64 ((zn+1:Nat):Int)) rfl rfl (by first|rfl|(rw[<-hwz];rfl)) (w:=w9) HE9.out ?_;intro w10 kl10 hDF hDG yJ hEy;have hFK:=AA hDF;have zp:Hid (w8.grownBy w10 (some mo)):=hCe.out.trans yJ;have hDH:=AA hDG;clear hDF hDG yJ;refine hK.out _ _ (HS.out _ zp.out) (fun _=>?_);clear hK K;try go_frame
        refine dnD ?_;have hDE:=AA (HOw.out.hit HXx.out HSl.out HPa.out HSg.out HZn.out HA9.out hFK.out);have zq:Hid (w7.grownBy w10 (some mo)):=hHM.out.trans zp.out;have hBN:ZN w3 w10:=yR.grown zq.out yR.size (ZJ hHL);go_wp2_with fail
        go_roundw
        case rel=>exact⟨i+1,D++[x],kl10,by go_num,by rw[HN.out];omega,HDl.out,HDn.out,HOr.out _ zq.out,hD8.out.kept zp.out (by intro e;injection e with e;exact hbm e),hDH.out,hDE.out,hBN⟩
        case measure=>simp[intOf];omega
      ·have di:=ZL (show n<=i by omega)
       have hAt:i=n:=by omega
       have yy:D=spF s p l:=by
        have h:=HDe.out;rw[AT (by rw[HN.out];omega)]at h;exact h
       have HOwl:Hid (OwB s p f l i kl):=by
        have h:=HOw.out;rw[AT (by rw[HN.out];omega)]at h;exact h
       obtain⟨A1,c1,hu16,hR1,zc⟩:=Kg xK.out;subst hu16;have hm:∀v∈D,Ab v/\v.slot=(s:Int):=fun v hv=>by
        rw[yy]at hv;exact⟨HL.out v (Qh hv).1,(Qh hv).2.1⟩
       have hnb:some b≠(Value.slice A1 D.length c1).ownBlock:=CJ xK.out HBv.out (by decide);have hEZ:∀p',A1=some p'->some p'.block≠some b:=fun p' h e=>hnb (by rw[zc p' h];exact e.symm)
       have HNe1:=AA hEZ;have zj:=AA (KY M p A1 D.length c1 D (s:Int) wr rfl hR1 hD6 hm (by simpa using zS.out));have HR1:=AA hR1;have ye:=AA yy;have HDm:=AA hm;have y1:AJ wr qb 0 8=some p.cells:=HQ.out _ yj;have y6:wr.cell? ⟨b,12,none⟩=some (.slice none 0 0):=HBv.out.cell 12;obtain⟨nD,hnD⟩:=ZH D.length;rw[<-hnD]at zj hD6 ⊢;have HND:Hid (D.length=nD):=hnD.symm;clear yy hm hR1 xK HOw HDe zc hEZ hnb hnD hDi;go_upto_region 13 with fail
       go_wp2_with fail
       refine zj.out.mono ?_;rintro en wa ⟨va,O,rfl,hO,hOn,hDI,hba⟩;obtain⟨AO,cO,rfl,hRO,hHO⟩:=Kg hDI;have hAi:=hbw.trans (hba.mono hbw.size);have hCf:Hid (Blk wa b 229 (Cz M q s f p none 0 0 mo)):=HBv.out.below hba HBv.out.lt;have hFL:Hid (Bp DZ wa mo kl):=HMv.out.below hba HMv.out.is.lt;have HRa:Hid (Rd wa wa.heap.size A1 (D.flatMap vtc)):=(HR1.out.below hba).more hba.size;have y7:wa.cell? ⟨b,12,none⟩=some (.slice none 0 0):=hCf.out.cell 12;have y8:wa.frozen? ⟨b,12,none⟩=false:=hCf.out.frozen 12;have hHP:some b≠(Value.slice AO O.length cO).ownBlock:=CJ hDI hCf.out (by decide);have hEa:∀p',AO=some p'->some p'.block≠some b:=fun p' h e=>hHP (by rw[hHO p' h];exact e.symm)
       have HRO:=AA hRO;have HNeO:=AA hEa;have HO:=AA hO;have hO6:O.length<=1000000:=by omega
       clear hO hDI hHO hEa hHP hRO zj y1 y6 hba HBv HMv HR1;go_upto_region 14 with fail
       obtain⟨w5,hw5⟩:=ZH (wa.setCell ⟨b,12,none⟩ (.slice AO O.length cO));rw[<-hw5];have hg5:wa.grownBy w5 (some b):=by rw[hw5];exact Bl (p:=⟨b,12,none⟩) (Am wa b) rfl _
       have xP:ZN w3 w5:=hAi.grown hg5 hAi.size (ZJ xJ);have xX:=xI.trans (xP.mono xI.size);have hV5:Fh w5 b M (q:Int) (s:Int) f p AO cO mo O (owF s p f l):=⟨by rw[hw5];exact hCf.out.put 12 _,(HRO.out.kept hg5 (AB _) HNeO.out).more hg5.size,kl,hFL.out.kept hg5 (by intro e;injection e with e;exact L8 hFL.out hCf.out e),fun k r=>by obtain⟨z,h1,_,h3⟩:=HOwl.out k r;exact⟨z,h1,h3⟩⟩;have hR5:Rd w5 w5.heap.size A1 (D.flatMap vtc):=(HRa.out.kept hg5 (AB _) HNe1.out).more hg5.size;have hOv:∀v∈O,Ab v:=fun v hv=>(HDm.out v (HO.out.1.2 v hv).1).1
       have HE:Hid (Calls prog 160 #[.pointer (some ⟨b,0,none⟩),.slice A1 nD c1,.slice AH nH cH] w5 (DO (F8 M p s f D H (owF s p f l)) w5)):=TR hV5 A1 nD c1 D HND.out hR5 hD6 (fun v hv=>(HDm.out v hv).1) zS.out AH nH cH H HNH.out (HRH.out _ xX) hDw;have HFi:Hid (∀V,ZN w5 V->Calls prog 161 #[.pointer (some ⟨b,0,none⟩),.slice A1 nD c1,.bool wt] V (DO (Ed M q p s f D wt (owF s p f l)) V)):=fun V hV=>Rk (hV5.below hV) HQe.out yt A1 nD c1 D HND.out ((hR5.below hV).more hV.size) hD6 (fun v hv=>(HDm.out v hv).1) zS.out wt
       have HPc:Hid (∀(r:Nat) V,ZN w5 V->Calls prog 162 #[.pointer (some ⟨b,0,none⟩),.int .i64 (r:Int)] V (DO (Dk q p s f O (owF s p f l) r) V)):=fun r V hV=>Lj (hV5.below hV) yt hOv hO6 r
       have HPv:Hid (∀(r:Nat) V,r<=12->ZN w5 V->Calls prog 163 #[.pointer (some ⟨b,0,none⟩),.int .i64 (r:Int)] V (DO (Ke p s f O (owF s p f l) (r:Int)) V)):=fun r V hr hV=>Nt (hV5.below hV) hq1 yt hOv hO6 r hr
       have HOa:Hid (FP M p (s:Int) (spF s p l) O):=by unfold Hid;rw[<-ye.out];exact HO.out
       have HFd:Hid ((0<=f/\f<=9)/\(xOf M).testBit f.toNat=true):=⟨HF.out,HD0.out⟩;have NE:Hid (∀v,F8 M p s f D H (owF s p f l) (some v)->C4 M (CH (Aw (xOf M) 10)) p s f l H wt (some v)):=fun v h=>by rw[<-HQe.out];exact⟨HFd.out,zS.out,HOg.out,.inl (by rw[<-ye.out];exact h)⟩
       have NF:Hid (F8 M p s f D H (owF s p f l) none->∀v,Ed M q p s f D wt (owF s p f l) (some v)->C4 M (CH (Aw (xOf M) 10)) p s f l H wt (some v)):=fun h0 v h=>by rw[<-HQe.out];exact⟨HFd.out,zS.out,HOg.out,.inr ⟨by rw[<-ye.out];exact h0,.inl (by rw[<-ye.out];exact h)⟩⟩
       have NP:Hid (F8 M p s f D H (owF s p f l) none->Ed M q p s f D wt (owF s p f l) none->∀(r:Nat) v,1<=r->r<=12->(∀r':Int,1<=r'->r'<r->Dk q p s f O (owF s p f l) r' none)->(Dk q p s f O (owF s p f l) r (some v)∨((r:Int)<12/\Dk q p s f O (owF s p f l) r none/\Ke p s f O (owF s p f l) r (some v)))->C4 M (CH (Aw (xOf M) 10)) p s f l H wt (some v)):=fun h0 h1 r v hr1 hr2 hno h=>by
        rw[<-HQe.out];exact⟨HFd.out,zS.out,HOg.out,.inr ⟨by rw[<-ye.out];exact h0,.inr ⟨by rw[<-ye.out];exact h1,O,(r:Int),HOa.out,by omega,by omega,hno,h⟩⟩⟩
       have NN:Hid (F8 M p s f D H (owF s p f l) none->Ed M q p s f D wt (owF s p f l) none->(∀r:Int,1<=r->r<=12->Dk q p s f O (owF s p f l) r none)->C4 M (CH (Aw (xOf M) 10)) p s f l H wt none):=fun h0 h1 hno=>by
        rw[<-HQe.out];exact .inr (.inr (.inr ⟨HOg.out,by rw[<-ye.out];exact h0,by rw[<-ye.out];exact h1,O,HOa.out,hno⟩))
       have hb55:ZN w5 w5:=AC _ _;have h15:w1.heap.size<=w5.heap.size:=xX.size;clear hw5 hg5 hV5 hR5 hOv y7 y8 hCf hFL HRa HO HRO;go_wp2_with fail
       refine HE.out.mono ?_;rintro en w6 ⟨o6,rfl,hR6,hb6⟩;have HR6:=AA hR6;have yA:=xX.trans (hb6.mono xX.size);clear hR6;cases o6 with
       |some v=>
        simp only[GB,Option.isSome_some];go_upto_region 15 with(refine AI rfl 46 (.tmp 20) (.tmp 113) rfl w6.heap.size v.cells rfl rfl 46 Bi.cells (Blk.new w6 _ _) (by rfl) (by kernel_rfl) (fun u hu=>BO v hu) ?_;intro wz6 hBz hgz hsz)
        have h5z6:ZN w5 wz6:=(hb6.alloc hb6.size _).grown hgz (AG hb6.size (by simp)) (ZJ hb6.size);have hDJ:ZN w1 wz6:=(yA.alloc yA.size _).grown hgz (AG yA.size (by simp)) (ZJ yA.size);have hb0z:=HB1.out.trans (hDJ.mono HB1.out.size);have xz:AJ wz6 w6.heap.size 0 22=some v.cells:=hBz.row 22 rfl;obtain⟨zz,hzz⟩:=ZH w6.heap.size;rw[<-hzz]at xz ⊢;clear hzz hBz hgz hsz;go_wp2_with (refine AI rfl 46 (.tmp 14) (.tmp 116) rfl g (v).cells rfl rfl 46 Ad (HG.out _ hDJ) rfl Au (fun u hu=>BO _ hu) ?_;intro w9 hR9 hg9 xu)
        refine bodyPost_ret (AW (g:=g) (cs:=(v).cells) rfl _ _ _ _ _ rfl hR9 underlying46 rfl Au) rfl ⟨some (v),rfl,NE.out v HR6.out,?_⟩;exact Below.grown (hb0z) hg9 (Below.size (hb0z)) (ZJ hgw)
       |none=>
        simp only[GB,Option.isSome_none];go_upto_region 15 with(refine AI rfl 46 (.tmp 20) (.tmp 113) rfl w6.heap.size Ad rfl rfl 46 Bi.cells (Blk.new w6 _ _) (by rfl) (by kernel_rfl) (fun u hu=>CR hu) ?_;intro wz6 hBz hgz hsz)
        have h5z6:ZN w5 wz6:=(hb6.alloc hb6.size _).grown hgz (AG hb6.size (by simp)) (ZJ hb6.size);have hDJ:ZN w1 wz6:=(yA.alloc yA.size _).grown hgz (AG yA.size (by simp)) (ZJ yA.size);clear hBz hgz hsz;have HFi':=AA (HFi.out _ h5z6);go_wp2_with fail
        refine HFi'.out.mono ?_;rintro en w7 ⟨o7,rfl,hR7,hb7⟩;have HR7:=AA hR7;have xb:=hDJ.trans (hb7.mono hDJ.size);clear hR7;cases o7 with
        |some v=>
         simp only[GB,Option.isSome_some];go_upto_region 18 with(refine AI rfl 46 (.tmp 22) (.tmp 122) rfl w7.heap.size v.cells rfl rfl 46 Bi.cells (Blk.new w7 _ _) (by rfl) (by kernel_rfl) (fun u hu=>BO v hu) ?_;intro wz7 hBz hgz hsz)
         have h57:=h5z6.trans (hb7.mono h5z6.size);have h5z7:ZN w5 wz7:=(h57.alloc h57.size _).grown hgz (AG h57.size (by simp)) (ZJ h57.size);have hFN:ZN w1 wz7:=(xb.alloc xb.size _).grown hgz (AG xb.size (by simp)) (ZJ xb.size);have hb0z:=HB1.out.trans (hFN.mono HB1.out.size);have xz:AJ wz7 w7.heap.size 0 22=some v.cells:=hBz.row 22 rfl;obtain⟨zz,hzz⟩:=ZH w7.heap.size;rw[<-hzz]at xz ⊢;clear hzz hBz hgz hsz;go_wp2_with (refine AI rfl 46 (.tmp 14) (.tmp 125) rfl g (v).cells rfl rfl 46 Ad (HG.out _ hFN) rfl Au (fun u hu=>BO _ hu) ?_;intro w9 hR9 hg9 xu)
         refine bodyPost_ret (AW (g:=g) (cs:=(v).cells) rfl _ _ _ _ _ rfl hR9 underlying46 rfl Au) rfl ⟨some (v),rfl,NF.out HR6.out v HR7.out,?_⟩;exact Below.grown (hb0z) hg9 (Below.size (hb0z)) (ZJ hgw)
        |none=>
         simp only[GB,Option.isSome_none];go_upto_region 18 with(refine AI rfl 46 (.tmp 22) (.tmp 122) rfl w7.heap.size Ad rfl rfl 46 Bi.cells (Blk.new w7 _ _) (by rfl) (by kernel_rfl) (fun u hu=>CR hu) ?_;intro wz7 hBz hgz hsz)
         have h57:=h5z6.trans (hb7.mono h5z6.size);have h5z7:ZN w5 wz7:=(h57.alloc h57.size _).grown hgz (AG h57.size (by simp)) (ZJ h57.size);have hFN:ZN w1 wz7:=(xb.alloc xb.size _).grown hgz (AG xb.size (by simp)) (ZJ xb.size);clear hBz hgz hsz;go_wp2
         go_loopw [24] (fun iv wr=>∃r:Nat,iv= .int .i64 (r:Int)/\1<=r/\r<=13/\ZN w5 wr/\∀r':Int,1<=r'->r'<r->Dk q p s f O (owF s p f l) r' none) (fun iv _=>13-(intOf iv).toNat)
         case atStart=>exact⟨1,rfl,AB _,by omega,h5z7,fun r' h1 h2=>by omega⟩
         case round=>
          obtain⟨r,rfl,hr1,hr13,hbr,hno⟩:=hrel;have HNo:=AA hno;have hCQ:=xX.trans (hbr.mono h15);clear hno;by_cases hr:r<=12
          ·have dr:decide ((r:Int)<=12)=true:=by simp;omega
           have HPc':=AA (HPc.out r _ hbr);go_wp2_with fail
           refine HPc'.out.mono ?_;rintro en w8 ⟨o8,rfl,hR8,hb8⟩;have HR8:=AA hR8;have yI:=hCQ.trans (hb8.mono hCQ.size);clear hR8;cases o8 with
           |some v=>
            simp only[GB,Option.isSome_some];go_upto_region 24 with(refine AI rfl 46 (.tmp 25) (.tmp 134) rfl w8.heap.size v.cells rfl rfl 46 Bi.cells (Blk.new w8 _ _) (by rfl) (by kernel_rfl) (fun u hu=>BO v hu) ?_;intro wz8 hBz hgz hsz)
            have h58:=hbr.trans (hb8.mono hbr.size);have h5z8:ZN w5 wz8:=(h58.alloc h58.size _).grown hgz (AG h58.size (by simp)) (ZJ h58.size);have hDK:ZN w1 wz8:=(yI.alloc yI.size _).grown hgz (AG yI.size (by simp)) (ZJ yI.size);have hb0z:=HB1.out.trans (hDK.mono HB1.out.size);have xz:AJ wz8 w8.heap.size 0 22=some v.cells:=hBz.row 22 rfl;obtain⟨zz,hzz⟩:=ZH w8.heap.size;rw[<-hzz]at xz ⊢;clear hzz hBz hgz hsz;go_wp2_with (refine AI rfl 46 (.tmp 14) (.tmp 137) rfl g (v).cells rfl rfl 46 Ad (HG.out _ hDK) rfl Au (fun u hu=>BO _ hu) ?_;intro w9 hR9 hg9 xu)
            refine bodyPost_ret (AW (g:=g) (cs:=(v).cells) rfl _ _ _ _ _ rfl hR9 underlying46 rfl Au) rfl ⟨some (v),rfl,NP.out HR6.out HR7.out r v hr1 hr HNo.out (.inl HR8.out),?_⟩;exact Below.grown (hb0z) hg9 (Below.size (hb0z)) (ZJ hgw)
           |none=>
            simp only[GB,Option.isSome_none];go_upto_region 24 with(refine AI rfl 46 (.tmp 25) (.tmp 134) rfl w8.heap.size Ad rfl rfl 46 Bi.cells (Blk.new w8 _ _) (by rfl) (by kernel_rfl) (fun u hu=>CR hu) ?_;intro wz8 hBz hgz hsz)
            have h58:=hbr.trans (hb8.mono hbr.size);have h5z8:ZN w5 wz8:=(h58.alloc h58.size _).grown hgz (AG h58.size (by simp)) (ZJ h58.size);have hDK:ZN w1 wz8:=(yI.alloc yI.size _).grown hgz (AG yI.size (by simp)) (ZJ yI.size);clear hBz hgz hsz;have HPv':=AA (HPv.out r _ hr h5z8);go_wp2_with fail
            refine HPv'.out.mono ?_;rintro en w9 ⟨o9,rfl,hR9,hb9⟩;have HR9:=AA hR9;have zJ:=hDK.trans (hb9.mono hDK.size);clear hR9;cases o9 with
            |some v=>
             simp only[GB,Option.isSome_some];go_upto_region 27 with(refine AI rfl 46 (.tmp 27) (.tmp 142) rfl w9.heap.size v.cells rfl rfl 46 Bi.cells (Blk.new w9 _ _) (by rfl) (by kernel_rfl) (fun u hu=>BO v hu) ?_;intro wz9 hBz hgz hsz)
             have h59:=h5z8.trans (hb9.mono h5z8.size);have h5z9:ZN w5 wz9:=(h59.alloc h59.size _).grown hgz (AG h59.size (by simp)) (ZJ h59.size);have hFO:ZN w1 wz9:=(zJ.alloc zJ.size _).grown hgz (AG zJ.size (by simp)) (ZJ zJ.size);have hb0z:=HB1.out.trans (hFO.mono HB1.out.size);have xz:AJ wz9 w9.heap.size 0 22=some v.cells:=hBz.row 22 rfl;obtain⟨zz,hzz⟩:=ZH w9.heap.size;rw[<-hzz]at xz ⊢;clear hzz hBz hgz hsz;by_cases hr12:r<12
             ·have d12:decide ((r:Int)<12)=true:=by simp;omega
              go_wp2_with (refine AI rfl 46 (.tmp 14) (.tmp 149) rfl g (v).cells rfl rfl 46 Ad (HG.out _ hFO) rfl Au (fun u hu=>BO _ hu) ?_;intro w9 hR9 hg9 xu)
              refine bodyPost_ret (AW (g:=g) (cs:=(v).cells) rfl _ _ _ _ _ rfl hR9 underlying46 rfl Au) rfl ⟨some (v),rfl,NP.out HR6.out HR7.out r v hr1 hr HNo.out (.inr ⟨by omega,HR8.out,HR9.out⟩),?_⟩;exact Below.grown (hb0z) hg9 (Below.size (hb0z)) (ZJ hgw)
             ·have d12:decide ((r:Int)<12)=false:=by simp;omega
              have hDL:Hid (∀r':Int,1<=r'->r'<((r+1:Nat):Int)->Dk q p s f O (owF s p f l) r' none):=fun r' h1 h2=>by
               by_cases h3:r'=(r:Int)
               ·rw[h3];exact HR8.out
               ·exact HNo.out r' h1 (by omega)
              go_wp2;go_roundw
              case rel=>exact⟨r+1,by go_num,by omega,by omega,h5z9,hDL.out⟩
              case measure=>simp[intOf];omega
            |none=>
             simp only[GB,Option.isSome_none];go_upto_region 27 with(refine AI rfl 46 (.tmp 27) (.tmp 142) rfl w9.heap.size Ad rfl rfl 46 Bi.cells (Blk.new w9 _ _) (by rfl) (by kernel_rfl) (fun u hu=>CR hu) ?_;intro wz9 hBz hgz hsz)
             have h59:=h5z8.trans (hb9.mono h5z8.size);have h5z9:ZN w5 wz9:=(h59.alloc h59.size _).grown hgz (AG h59.size (by simp)) (ZJ h59.size);have hFO:ZN w1 wz9:=(zJ.alloc zJ.size _).grown hgz (AG zJ.size (by simp)) (ZJ zJ.size);clear hBz hgz hsz;have hDL:Hid (∀r':Int,1<=r'->r'<((r+1:Nat):Int)->Dk q p s f O (owF s p f l) r' none):=fun r' h1 h2=>by
              by_cases h3:r'=(r:Int)
              ·rw[h3];exact HR8.out
              ·exact HNo.out r' h1 (by omega)
             go_wp2;go_roundw
             case rel=>exact⟨r+1,by go_num,by omega,by omega,h5z9,hDL.out⟩
             case measure=>simp[intOf];omega
          ·have dr:decide ((r:Int)<=12)=false:=by simp;omega
           have hb0r:=HB1.out.trans (hCQ.mono HB1.out.size);go_wp2_with (refine AI rfl 46 (.tmp 14) (.tmp 150) rfl g Ad rfl rfl 46 Ad (HG.out _ hCQ) rfl Au (fun u hu=>CR hu) ?_;intro w9 hR9 hg9 xu)
           refine bodyPost_ret (AW (g:=g) (cs:=Ad) rfl _ _ _ _ _ rfl hR9 underlying46 rfl Au) rfl ⟨none,rfl,NN.out HR6.out HR7.out (fun r' h1 h2=>HNo.out r' h1 (by omega)),?_⟩;exact Below.grown (hb0r) hg9 (Below.size (hb0r)) (ZJ hgw)
def Dp(M:Int)(p:Nm)(f:Int)(l:List Vt)(H:List Nm)(wt:Bool):Option Vt->Prop
 |none=>∀s,s<=9->C4 M (CH (Aw (xOf M) 10)) p s f l H wt none
 |some v=>∃s,s<=9/\(∀s',s'<s->C4 M (CH (Aw (xOf M) 10)) p s' f l H wt none)/\C4 M (CH (Aw (xOf M) 10)) p s f l H wt (some v)
theorem Rl(M:Int)(p:Nm)(A:Option Addr)(n c:Nat)(l:List Vt)(f:Int)(AH:Option Addr)(nH cH:Nat)(H:List Nm)(wt:Bool)(w0:World)(hn:l.length=n)(hr:Rd w0 w0.heap.size A (l.flatMap vtc))(hsm:n<=1000000)(hl:∀v∈l,Ab v)(hf:0<=f/\f<=9)(hnH:H.length=nH)(hrH:Rd w0 w0.heap.size AH (H.flatMap nmc))(hDw:nH<=1000000):Calls prog 75 #[.int .i64 M,p.val,.slice A n c,.int .i64 f,.slice AH nH cH,.bool wt] w0 (DO (Dp M p f l H wt) w0):=by
 obtain⟨w,hw⟩:=ZH (w0.alloc (.cells p.cells 24));obtain⟨w1,hw1⟩:=ZH (w.alloc (.cells Ad 46));have hs1:w.heap.size=w0.heap.size+1:=by rw[hw];simp
 have hb0:ZN w0 w:=by rw[hw];exact(AC _ _).alloc (AB _) _
 have hb1:ZN w0 w1:=by rw[hw1];exact hb0.alloc hb0.size _
 obtain⟨qb,hqb⟩:=ZH w0.heap.size;obtain⟨g,hg⟩:=ZH (w0.heap.size+1);have hQ1:Blk w1 qb 24 p.cells:=by rw[hw1,hw,hqb];exact(Blk.new w0 _ _).alloc _
 have hG1:Blk w1 g 46 Ad:=by rw[hw1,hg,<-hs1];exact Blk.new w _ _
 have hgw:w0.heap.size<=g:=by omega
 have HG:Hid (∀V,ZN w1 V->Blk V g 46 Ad):=fun V hV=>hG1.below hV hG1.lt
 have HQ:Hid (∀V,ZN w1 V->AJ V qb 0 8=some p.cells):=fun V hV=>(hQ1.below hV hQ1.lt).row 8 rfl
 have HNx:Hid (∀(s:Nat) V,s<=9->ZN w1 V->Calls prog 111 #[.int .i64 M,p.val,.slice A n c,.int .i64 (s:Int),.int .i64 f,.slice AH nH cH,.bool wt] V (DO (C4 M (CH (Aw (xOf M) 10)) p s f l H wt) V)):=fun s V hs hV=>
  TV M p A n c l s f AH nH cH H wt V hn ((hr.below (hb1.trans (hV.mono hb1.size))).more (AG hb1.size hV.size)) hsm hl hs hf hnH ((hrH.below (hb1.trans (hV.mono hb1.size))).more (AG hb1.size hV.size)) hDw
 obtain⟨q,hq⟩:=ZH (CH (Aw (xOf M) 10));have HSr:Hid (∀o,((o=none->∀s,s<=9->C4 M q p s f l H wt none)/\∀v,o=some v->∃s,s<=9/\(∀s',s'<s->C4 M q p s' f l H wt none)/\C4 M q p s f l H wt (some v))->Dp M p f l H wt o):=fun o h=>by
  rw[hq]at h;cases o with
  |none=>exact h.1 rfl
  |some v=>exact h.2 v rfl
 rw[<-hq]at HNx;have HB1:=AA hb1;have HW:=AA hw;have HW1:=AA hw1;have HGg:=AA hg;have HQb:=AA hqb;have hbx:ZN w1 w1:=AC _ _;clear hw hw1 hs1 hb0 hb1 hqb hg hQ1 hG1 hr hrH hf hn hl hnH hq;go_enter func75,ntmps75;go_upto_region 1 with fail
 simp only[<-HW.out,<-HW1.out,<-HGg.out];simp only[<-HQb.out];go_wp2
 go_loopw [17] (fun iv wr=>∃s:Nat,iv= .int .i64 (s:Int)/\s<=10/\ZN w1 wr/\∀s',s'<s->C4 M q p s' f l H wt none) (fun iv _=>10-(intOf iv).toNat)
 case atStart=>exact⟨0,rfl,Nat.zero_le _,hbx,fun s' h=>by omega⟩
 case round=>
  obtain⟨s,rfl,hEy,hbr,hno⟩:=hrel;have HNo:=AA hno;clear hno;by_cases hs:s<10
  ·have ds:decide ((s:Int)<10)=true:=by simp;omega
   have y1:AJ wr qb 0 8=some p.cells:=HQ.out _ hbr;have hBO:=AA (HNx.out s wr (by omega) hbr);go_wp2_with fail
   refine hBO.out.mono ?_;rintro en w5 ⟨o5,rfl,hR5,hb5⟩;have HR5:=AA hR5;have xX:=hbr.trans (hb5.mono hbr.size);clear hR5;cases o5 with
   |some v=>
    simp only[GB,Option.isSome_some];go_upto_region 5 with(refine AI rfl 46 (.tmp 15) (.tmp 29) rfl w5.heap.size v.cells rfl rfl 46 Bi.cells (Blk.new w5 _ _) (by rfl) (by kernel_rfl) (fun u hu=>BO v hu) ?_;intro wz5 hBz hgz hsz)
    have hD9:ZN w1 wz5:=(xX.alloc xX.size _).grown hgz (AG xX.size (by simp)) (ZJ xX.size);have hb0z:=HB1.out.trans (hD9.mono HB1.out.size);have xz:AJ wz5 w5.heap.size 0 22=some v.cells:=hBz.row 22 rfl;obtain⟨zz,hzz⟩:=ZH w5.heap.size;rw[<-hzz]at xz ⊢;clear hzz hBz hgz hsz;go_wp2_with (refine AI rfl 46 (.tmp 12) (.tmp 32) rfl g (v).cells rfl rfl 46 Ad (HG.out _ hD9) rfl Au (fun u hu=>BO _ hu) ?_;intro w9 hR9 hg9 xu)
    refine bodyPost_ret (AW (g:=g) (cs:=(v).cells) rfl _ _ _ _ _ rfl hR9 underlying46 rfl Au) rfl ⟨some (v),rfl,HSr.out (some v) ⟨fun h=>(by cases h),fun v' h=>by injection h with h;subst h;exact⟨s,by omega,HNo.out,HR5.out⟩⟩,?_⟩;exact Below.grown (hb0z) hg9 (Below.size (hb0z)) (ZJ hgw)
   |none=>
    simp only[GB,Option.isSome_none];go_upto_region 5 with(refine AI rfl 46 (.tmp 15) (.tmp 29) rfl w5.heap.size Ad rfl rfl 46 Bi.cells (Blk.new w5 _ _) (by rfl) (by kernel_rfl) (fun u hu=>CR hu) ?_;intro wz5 hBz hgz hsz)
    have hD9:ZN w1 wz5:=(xX.alloc xX.size _).grown hgz (AG xX.size (by simp)) (ZJ xX.size);clear hBz hgz hsz;have hDL:Hid (∀s',s'<s+1->C4 M q p s' f l H wt none):=fun s' h=>by
     by_cases h3:s'=s
     ·rw[h3];exact HR5.out
     ·exact HNo.out s' (by omega)
    go_wp2;go_roundw
    case rel=>exact⟨s+1,by go_num,by omega,hD9,hDL.out⟩
    case measure=>simp[intOf];omega
  ·have ds:decide ((s:Int)<10)=false:=by simp;omega
   have hb0r:=HB1.out.trans (hbr.mono HB1.out.size);go_wp2_with (refine AI rfl 46 (.tmp 12) (.tmp 34) rfl g Ad rfl rfl 46 Ad (HG.out _ hbr) rfl Au (fun u hu=>CR hu) ?_;intro w9 hR9 hg9 xu)
   refine bodyPost_ret (AW (g:=g) (cs:=Ad) rfl _ _ _ _ _ rfl hR9 underlying46 rfl Au) rfl ⟨none,rfl,HSr.out none ⟨fun _ s' h=>HNo.out s' (by omega),fun v h=>(by cases h)⟩,?_⟩;exact Below.grown (hb0r) hg9 (Below.size (hb0r)) (ZJ hgw)
end
section
open Go.RowKit
attribute [local go_sem ↓] Go.wp_at_zero Go.wp_at_succ Aj
attribute [local go_sem] Ax AK AR AN
def Nu(s:Nm)(h m level number:Nat)(w:World)(e:Ending)(w':World):Prop:=
 ∃g,e= .returned (Eo g)/\BK w' g 32 (CZ s level number)/\Bg s h m w'/\w.grownBy w' (some m)
theorem FQ{w w':World}{row:Option Nat}(h:ZN w w'):w.grownBy w' row:=⟨h.os,h.tape,h.output,h.size,fun i hi _=>h.block i hi⟩
theorem L9{w w1 w2:World}{row:Option Nat}{k:Nat}(h1:w.grownBy w1 row)(h2:w1.grownBy w2 (some k))(hk:w.heap.size<=k):w.grownBy w2 row:=
 ⟨h2.os.trans h1.os,h2.tape.trans h1.tape,h2.output.trans h1.output,AG h1.size h2.size,fun i hi hne=>(h2.block i (Nat.lt_of_lt_of_le hi h1.size) (by intro e;injection e with e;omega)).trans (h1.block i hi hne)⟩
theorem TW(g:Nat)(W:World):(binOp .neq 75 (Eo g) (.slice none 0 0)).run prog W= .ok (.bool true) W:=by first|rfl|kernel_rfl
theorem VY(W:World):(binOp .neq 75 (.slice none 0 0) (.slice none 0 0)).run prog W= .ok (.bool false) W:=by first|rfl|kernel_rfl
theorem TX(s:Nm)(h m level number g:Nat)(tl:List ((Int×Int)×Value))(w:World)(hB:Blk w h 152 (CL s m))(hM:By DZ w m tl)(ha:BQ ((level:Int),(number:Int)) tl=some (Eo g)):Calls prog 92 #[.pointer (some ⟨h,0,none⟩),.int .i64 (level:Int),.int .i64 (number:Int)] w fun e w'=>e= .returned (Eo g)/\w'=w:=by
 have c9:w.cell? ⟨h,9,none⟩=some (.map (some m)):=hB.cell 9;have zK:(Instr.lookup 150 (.map (some m)) (.agg #[.int .i64 (level:Int),.int .i64 (number:Int)]) false).run prog w= .ok (Eo g) w:=by
  have h1:=hM.look RS underlying150 (.slice none 0 0) (by first|rfl|kernel_rfl) ((level:Int),(number:Int)) false;rw[ha]at h1;exact h1
 have hne:=TW g w;clear hB hM ha;go_enter func92,ntmps92;go_wp2;go_ret;exact⟨rfl,rfl⟩
def B6(D:Nat->Prop)(s:Nm)(h m:Nat)(w:World):Prop:=Blk w h 152 (CL s m)/\h≠m/\∃tl,By DZ w m tl/\Gv s w tl/\∀a g,BQ a tl=some (Eo g)->D g
section
variable {D D':Nat->Prop}{s:Nm}{h m:Nat}{w w':World}
theorem B6.key(hk:B6 D s h m w):Bg s h m w:=by
 obtain⟨h1,h2,tl,h3,h4,_⟩:=hk;exact⟨h1,h2,tl,h3,h4⟩
theorem Bg.toD(hk:Bg s h m w)(hD:∀g,D g):B6 D s h m w:=by
 obtain⟨h1,h2,tl,h3,h4⟩:=hk;exact⟨h1,h2,tl,h3,h4,fun _ g _=>hD g⟩
theorem B6.below(hk:B6 D s h m w)(hb:ZN w w'):B6 D s h m w':=by
 obtain⟨h1,h2,tl,h3,h4,h5⟩:=hk;exact⟨h1.below hb h1.lt,h2,tl,h3.below hb h3.lt,h4.below hb,h5⟩
end
def MA(D:Nat->Prop)(s:Nm)(h m level number:Nat)(w:World)(e:Ending)(w':World):Prop:=
 ∃g,e= .returned (Eo g)/\BK w' g 32 (CZ s level number)/\B6 D s h m w'/\w.grownBy w' (some m)
theorem Rm(D:Nat->Prop)(s:Nm)(h m level number:Nat)(tl:List ((Int×Int)×Value))(w:World)(hl:level<=2)(hn:number<32)(hB:Blk w h 152 (CL s m))(hhm:h≠m)(hM:By DZ w m tl)(hT:Gv s w tl)(hD:∀a g,BQ a tl=some (Eo g)->D g)(hDn:D w.heap.size)(ha:BQ ((level:Int),(number:Int)) tl=none):Calls prog 92 #[.pointer (some ⟨h,0,none⟩),.int .i64 (level:Int),.int .i64 (number:Int)] w (MA D s h m level number w):=by
 have c9:w.cell? ⟨h,9,none⟩=some (.map (some m)):=hB.cell 9;have zK:(Instr.lookup 150 (.map (some m)) (.agg #[.int .i64 (level:Int),.int .i64 (number:Int)]) false).run prog w= .ok (.slice none 0 0) w:=by
  have h1:=hM.look RS underlying150 (.slice none 0 0) (by first|rfl|kernel_rfl) ((level:Int),(number:Int)) false;rw[ha]at h1;exact h1
 have hne:=VY w;obtain⟨Z,hZ⟩:=ZH (Array.replicate 256 (Value.int .u8 0));have hmk:∀W:World,(Instr.makeSlice 75 (.int .i64 32) (.int .i64 32)).run prog W= .ok (.slice (some ⟨W.heap.size,0,none⟩) 32 32) (W.alloc (.cells Z 24)):=fun W=>by rw[hZ];kernel_rfl
 have HZ:Hid (Z.size=8*32):=by rw[hZ];exact Array.size_replicate
 have HB:=AA hB;have HM:=AA hM;have HT:=AA hT;have HHM:=AA hhm;have HD:=AA hD;have HDn:=AA hDn;clear hZ hB hM hT ha hhm hD hDn;go_enter func92,ntmps92;go_upto_region 5 with fail
 clear hmk zK hne c9;have hN:BK (w.alloc (Obj.cells Z 24)) w.heap.size 32 []:=BK.zero w Z 32 HZ.out;have hbW:ZN w (w.alloc (Obj.cells Z 24)):=(AC _ _).alloc (AB _) _;generalize (w.alloc (Obj.cells Z 24))=W at*;clear HZ;try go_frame
 go_wp2_with fail
 go_loopw [24] (fun i wr=>∃k:Nat,k<=32/\i= .int .i64 k/\BK wr w.heap.size 32 ((List.range k).map (GW s level number))/\ZN w wr)
  (fun i _=>32-(intOf i).toNat)
 case atStart=>exact⟨0,by omega,rfl,hN,hbW⟩
 case round=>
  clear hN hbW;obtain⟨k,hk,rfl,hN,hb⟩:=hrel;by_cases hlt:k<32
  ·have e1:=FM (GW s level number) k;have E1:=AA e1;clear e1;have E2:Hid (((List.range k).map (GW s level number)).length=k):=by show _=_;simp
   generalize (List.range k).map (GW s level number)=nl at*;obtain⟨y,hy⟩:=ZI (GW s level number k);obtain⟨x,hx⟩:=ZI (Jw s level number k);have e3:Ov x=y:=by rw[<-hx,<-hy];rfl
   have HS:Hid (Calls prog 140 #[.pointer (some ⟨h,0,none⟩),.int .i64 (level:Int),.int .i64 (number:Int),.int .i64 (k:Int)] wr (BM wr x)):=Le s x h m level number k wr (HB.out.below hb HB.out.lt) hl hn hlt hx;have HW:Hid (∀W,Calls prog 139 #[x.val] W (BM W y)):=fun W=>NJ x y W e3
   rw[hy]at E1;clear hx hy e3;go_wp2_with (first
    |(go_at_call 140;refine HS.out.mono ?_;rintro en w2 ⟨rfl,hb2⟩;have hN2:=hN.below hb2 hN.lt;have xB:=hb.trans (hb2.mono hb.size))
    |(go_at_call 139;refine(HW.out _).mono ?_;rintro en w3 ⟨rfl,hb3⟩;have hN3:=hN2.below hb3 hN2.lt;have xJ:=xB.trans (hb3.mono xB.size))
    |(refine Cw rfl 24 (.tmp 35) (.tmp 34) rfl w.heap.size 32 k nl y rfl rfl hN3 E2.out hlt Ag ?_))
   intro w4 hN4 hg4 hs4;have xE:ZN w w4:=xJ.grown hg4 xJ.size (by rintro j ⟨⟩;omega);clear hN hb hb2 hN2 xB hb3 hN3 xJ hg4 hs4 HW HS;go_wp2;go_roundw
   case rel=>exact⟨k+1,by omega,by go_num,by rw[E1.out];exact hN4,xE⟩
   case measure=>simp[intOf];omega
  ·obtain rfl:k=32:=by omega
   have HM2:Hid (By DZ wr m tl):=HM.out.below hb HM.out.lt;have c9:wr.cell? ⟨h,9,none⟩=some (.map (some m)):=(HB.out.below hb HB.out.lt).cell 9;have hmlt:=HM.out.lt;have HN:=AA hN;clear hN;go_wp2_with (refine Ox (enc:=DZ) rfl 150 75 (.tmp 40) (.tmp 43) (.tmp 44) rfl m ((level:Int),(number:Int)) (Eo w.heap.size) tl rfl rfl rfl HM2.out RS underlying150 ?_;intro w5 hM5 hg5 hs5)
   go_ret;have hN5:BK w5 w.heap.size 32 (CZ s level number):=HN.out.kept hg5 (by simp;omega);have hgr:w.grownBy w5 (some m):=(FQ hb).trans hg5;refine⟨w.heap.size,rfl,hN5,⟨HB.out.kept hgr (by simpa using HHM.out),HHM.out,_,hM5,fun a v hav=>?_,fun a g hav=>?_⟩,hgr⟩;rotate_left
   ·rw[Cn]at hav;split at hav
    ·injection hav with hav
     have:g=w.heap.size:=by simpa[Eo]using hav.symm
     rw[this];exact HDn.out
    ·exact HD.out a g hav
   rw[Cn]at hav;split at hav
   ·rename_i hkk
    injection hav with hav
    exact⟨level,number,w.heap.size,hkk,hav.symm,hN5⟩
   ·obtain⟨a1,b1,g,h1,h2,h3⟩:=HT.out a v hav;refine⟨a1,b1,g,h1,h2,h3.kept hgr ?_⟩;intro e;injection e with e
    subst e;obtain⟨cur,hC,_⟩:=h3;obtain⟨es,cl,h5,_⟩:=HM.out;unfold Blk at hC;rw[hC]at h5;cases h5
theorem MB(D:Nat->Prop)(s:Nm)(h m level number:Nat)(w:World)(hk:B6 D s h m w)(hDn:D w.heap.size)(hl:level<=2)(hn:number<32):Calls prog 92 #[.pointer (some ⟨h,0,none⟩),.int .i64 (level:Int),.int .i64 (number:Int)] w (MA D s h m level number w):=by
 obtain⟨hB,hhm,tl,hM,hT,hD⟩:=hk;cases ha:BQ ((level:Int),(number:Int)) tl with
 |none=>exact Rm D s h m level number tl w hl hn hB hhm hM hT hD hDn ha
 |some v=>
  obtain⟨a,b,g,h1,rfl,h3⟩:=hT _ _ ha;have e1:level=a:=by have:=congrArg Prod.fst h1;simp at this;omega
  have e2:number=b:=by have:=congrArg Prod.snd h1;simp at this;omega
  subst e1;subst e2;refine(TX s h m level number g tl w hB hM ha).mono ?_;rintro e w' ⟨rfl,rfl⟩;exact⟨g,rfl,h3,⟨hB,hhm,tl,hM,hT,hD⟩,Am _ _⟩
theorem Nv(s:Nm)(h m level number:Nat)(w:World)(hk:Bg s h m w)(hl:level<=2)(hn:number<32):Calls prog 92 #[.pointer (some ⟨h,0,none⟩),.int .i64 (level:Int),.int .i64 (number:Int)] w (Nu s h m level number w):=
 (MB (fun _=>True) s h m level number w (hk.toD fun _=>trivial) trivial hl hn).mono fun _ _ ⟨g,h1,h2,h3,h4⟩=>⟨g,h1,h2,h3.key,h4⟩
end
end Go.Proofs.YtadllffeoibelaaGreat
