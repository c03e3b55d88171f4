/-
  Parts of the proof. No condition.
-/
import Derived.Test.YtadllffeoibelaaGreatS20
open Go.Proofs.Tryz
namespace Go.Proofs.YtadllffeoibelaaGreat
set_option maxRecDepth 100000
set_option maxHeartbeats 32000000
set_option linter.all false
section
open Go.RowKit Go.Shelf
attribute [local go_sem ↓] Go.wp_at_zero Go.wp_at_succ Aq Au Av Aw Dl
attribute [local go_sem] BE BL BM BN FE AR AX AU
def WF(l:List Vt)(s:Nat)(p:Nm)(M q f:Int)(b mo:Nat)(w:World)(v iv:Value)(wr:World):Prop:=
 ∃(i:Nat) (D:List Vt) (kl:List ((Int×Int)×Value)),iv= .int .i64 (i:Int)/\i<=l.length/\D.length<=i/\D=spF s p (l.take i)/\wr.ownsRow w.heap.size 46 22 v D.length (D.flatMap vtc)/\
  Blk wr b 229 (Cp M q s f p none 0 0 mo)/\Bj DM wr mo kl/\OwB s p f (l.take i) i kl/\Wx w wr
theorem Jo{w:World}{base e size n:Nat}{v:Value}{xs:List Value}(h:w.ownsRow base e size v n xs):∃A c,v= .slice A n c/\Rd w w.heap.size A xs/\∀p',A=some p'->(Value.slice A n c).ownBlock=some p'.block:=by
 rcases h.2 with⟨rfl,h0⟩|⟨g,cap,cur,rfl,_⟩
 ·exact⟨none,0,by rw[h0],.inl (AQ (by rw[h.1,h0,Nat.zero_mul])),fun p' h=>(by cases h)⟩
 ·exact⟨_,cap,rfl,Rd.of_own h,fun p' h=>by injection h with h;subst h;rfl⟩
theorem U4(n:Nat):Bd n<=n:=Nat.sub_le _ _
theorem Rp(M:Int)(p:Nm)(A:Option Addr)(n c:Nat)(l:List Vt)(s:Nat)(f:Int)(AH:Option Addr)(nH cH:Nat)(H:List Nm)(wt:Bool)(w0:World)(hn:l.length=n)(hr:Rd w0 w0.heap.size A (l.flatMap vtc))(hsm:n<=1000000)(hl:∀v∈l,AW v)(hs9:s<=9)(hf:0<=f/\f<=9)(hnH:H.length=nH)(hrH:Rd w0 w0.heap.size AH (H.flatMap nmc))(hDX:nH<=1000000):Calls prog 111 #[.int .i64 M,p.val,.slice A n c,.int .i64 (s:Int),.int .i64 f,.slice AH nH cH,.bool wt] w0 (DA (Ce M (Bd (Ae (xOf M) 10)) p s f l H wt) w0):=by
 obtain⟨w,hw⟩:=Wr (w0.alloc (.cells p.cells 24));obtain⟨w1,hw1⟩:=Wr (w.alloc (.cells Ai 46));have hs1:w.heap.size=w0.heap.size+1:=by rw[hw];simp
 have hb0:Wx w0 w:=by rw[hw];exact(AC _ _).alloc (AB _) _
 have hb1:Wx w0 w1:=by rw[hw1];exact hb0.alloc hb0.size _
 obtain⟨qb,hqb⟩:=Wr w0.heap.size;obtain⟨g,hg⟩:=Wr (w0.heap.size+1);have hQ1:Blk w1 qb 24 p.cells:=by rw[hw1,hw,hqb];exact(Blk.new w0 _ _).alloc _
 have hG1:Blk w1 g 46 Ai:=by rw[hw1,hg,<-hs1];exact Blk.new w _ _
 have hgw:w0.heap.size<=g:=by omega
 have hgl:g<w1.heap.size:=hG1.lt;have HG:Hid (∀V,Wx w1 V->Blk V g 46 Ai):=fun V hV=>hG1.below hV hG1.lt
 have HQ:Hid (∀V,Wx w1 V->AK V qb 0 8=some p.cells):=fun V hV=>(hQ1.below hV hQ1.lt).row 8 rfl
 have HRl:Hid (∀V,Wx w1 V->Rd V w0.heap.size A (l.flatMap vtc)):=fun V hV=>hr.below (hb1.trans (hV.mono hb1.size))
 have HRH:Hid (∀V,Wx w1 V->Rd V V.heap.size AH (H.flatMap nmc)):=fun V hV=>(hrH.below (hb1.trans (hV.mono hb1.size))).more (AG hb1.size hV.size)
 obtain⟨d,hd⟩:=Wr ((xOf M).testBit f.toNat);obtain⟨d',hd'⟩:=Wr ((xOf M).testBit s);have HHa:Hid (∀W,Calls prog 19 #[.int .i64 M,.int .i64 f] W fun e w'=>e= .returned (.bool d)/\w'=W):=fun W=>by rw[hd];exact Dg M f hf.1 hf.2 W
 have HHb:Hid (∀W,Calls prog 19 #[.int .i64 M,.int .i64 (s:Int)] W fun e w'=>e= .returned (.bool d')/\w'=W):=fun W=>by rw[hd'];exact ET M s (by omega) W
 have hDd:Hid (d'=true->Calls prog 79 #[.int .i64 M,p.val,.slice A n c,.int .i64 (s:Int)] w1 (Jc M p s l w1)):=fun h=>MP M p A n c l s w1 hn ((hr.below hb1).more hb1.size) hsm hl (by rw[<-hd'];exact h)
 have hl6:l.length<=1000000:=by omega
 have HF:=AA hf;have HN:=AA hn;have HL:=AA hl;have HNH:=AA hnH;have HB1:=AA hb1;have HW:=AA hw;have HW1:=AA hw1;have HGg:=AA hg;have HQb:=AA hqb;have HD0:=AA hd.symm;have yz:=AA hd'.symm;have hbx:Wx w1 w1:=AC _ _;clear hw hw1 hs1 hb0 hb1 hqb hg hQ1 hG1 hr hrH hd hd' hf hn hl hnH;go_enter func111,ntmps111;go_upto_region 1 with fail
 simp only[<-HW.out,<-HW1.out,<-HGg.out];simp only[<-HQb.out];go_wp2_with fail
 refine(HHa.out _).mono ?_;rintro en w2 ⟨rfl,hw2⟩;replace hw2:=hw2.symm;subst hw2;clear HHa;cases d with
 |false=>
  go_wp2_with (refine AJ rfl 46 (.tmp 14) (.tmp 48) rfl g Ai rfl rfl 46 Ai (HG.out _ hbx) rfl Ao (fun u hu=>CL hu) ?_;intro w9 hR9 hg9 xg)
  refine bodyPost_ret (Ac (g:=g) (cs:=Ai) rfl _ _ _ _ _ rfl hR9 underlying46 rfl Ao) rfl ⟨none,rfl,.inl (fun h=>by have h1:=HD0.out;rw[h.2]at h1;cases h1),?_⟩;exact Below.grown (HB1.out) hg9 (Below.size (HB1.out)) (Wt hgw)
 |true=>
  go_wp2_with fail
  refine(HHb.out _).mono ?_;rintro en w2 ⟨rfl,hw2⟩;replace hw2:=hw2.symm;subst hw2;clear HHb;cases d' with
  |false=>
   go_wp2_with (refine AJ rfl 46 (.tmp 14) (.tmp 48) rfl g Ai rfl rfl 46 Ai (HG.out _ hbx) rfl Ao (fun u hu=>CL hu) ?_;intro w9 hR9 hg9 xg)
   refine bodyPost_ret (Ac (g:=g) (cs:=Ai) rfl _ _ _ _ _ rfl hR9 underlying46 rfl Ao) rfl ⟨none,rfl,.inr (.inl yz.out),?_⟩;exact Below.grown (HB1.out) hg9 (Below.size (HB1.out)) (Wt hgw)
  |true=>
   have y1:AK w1 qb 0 8=some p.cells:=HQ.out _ hbx;have hED:=AA (hDd.out rfl);clear hDd;go_wp2_with fail
   refine hED.out.mono ?_;rintro en w3 ⟨v3,L,rfl,hL3,hLn,xC,hb3⟩;have xD:=hbx.trans hb3;have xd:=HB1.out.trans (xD.mono HB1.out.size);obtain⟨A3,c3,rfl,hR3⟩:=Bg xC;clear hR3 xC hb3 hED y1;obtain⟨nL,hnL⟩:=Ws L.length;rw[hnL]at hLn ⊢;have HNL:=AA hnL;have HL3:=AA hL3;clear hnL hL3;rcases Nat.eq_zero_or_pos nL with h0|h0
   rotate_left
   ·have dn:=Wu (show 0<nL by omega)
    go_wp2_with (refine AJ rfl 46 (.tmp 14) (.tmp 48) rfl g Ai rfl rfl 46 Ai (HG.out _ xD) rfl Ao (fun u hu=>CL hu) ?_;intro w9 hR9 hg9 xg)
    refine bodyPost_ret (Ac (g:=g) (cs:=Ai) rfl _ _ _ _ _ rfl hR9 underlying46 rfl Ao) rfl ⟨none,rfl,.inr (.inr (.inl ⟨L,HL3.out,fun e=>by have h1:=HNL.out;rw[e]at h1;simp at h1;omega⟩)),?_⟩;exact Below.grown (xd) hg9 (Below.size (xd)) (Wt hgw)
   ·subst h0;have hEE:L=[]:=AQ HNL.out;have HOg:Hid (He M p s l []):=by unfold Hid;rw[<-hEE];exact HL3.out
    clear hEE HL3 HNL;have xp:0<Ae (xOf M) 10:=Oq yz.out;obtain⟨q,hq⟩:=Wr (Bd (Ae (xOf M) 10));have hq1:1<=q:=by rw[hq];exact IP xp
    have yg:q<=10:=by rw[hq];exact AG (U4 _) (Eh _ _)
    have HSz:Hid (∀W,Calls prog 15 #[.int .i64 M] W fun e w'=>e= .returned (.int .i64 ((Ae (xOf M) 10:Nat):Int))/\w'=W):=fun W=>Cd M W
    have HQu:Hid (∀W,Calls prog 115 #[.int .i64 ((Ae (xOf M) 10:Nat):Int)] W fun e w'=>e= .returned (.int .i64 (q:Int))/\w'=W):=fun W=>by rw[hq];exact FZ _ (Eh _ _) W
    have HQe:=AA hq;obtain⟨a,ha⟩:=Wr (Ae (xOf M) 10);rw[<-ha]at HSz HQu;clear xp hq ha;have hmk:∀W:World,(Instr.makeMap 227 none).run prog W= .ok (.map (some W.heap.size)) (W.alloc (.map #[] 0)):=fun W=>rfl
    go_upto_region 4 with fail
    go_cut[17] (fun sv wx=>∃b mo,sv= .pointer (some ⟨b,0,none⟩)/\Blk wx b 229 (Cp M q s f p none 0 0 mo)/\Bj DM wx mo []/\w3.heap.size<=b/\w3.heap.size<=mo/\Wx w3 wx)
    case first=>
     refine rgD (fun V=>AK V qb 0 8=some p.cells) (HQ.out _ (xD.trans (AC _ _).drew)) fun _=>?_
     iterate 2 (refine tkA ?_;go_frame)
     refine tkD 53 4 ?_;go_frame;refine tkD 54 5 ?_;go_frame;refine tkD 55 6 ?_;go_frame;refine rd2 2 7 (fun K hK=>?_) fun K hK=>?_
     ·go_simp;refine(HSz.out _).mono ?_;rintro en w5 ⟨rfl,hw5⟩;replace hw5:=hw5.symm;subst hw5;go_wp2_with fail
      refine hK.out _ _ (HQ.out _ (xD.trans (AC _ _).drew)) (fun _=>?_);clear hK K;try go_frame
      refine rd2 3 7 (fun K hK=>?_) fun K hK=>?_
      ·go_simp;refine(HQu.out _).mono ?_;rintro en w5 ⟨rfl,hw5⟩;replace hw5:=hw5.symm;subst hw5;go_wp2_with fail
       refine hK.out _ _ (HQ.out _ (xD.trans (AC _ _).drew)) (fun _=>?_);clear hK K;try go_frame
       refine rd1 7 fun K hK=>?_
       go_simp;refine hK.out _ _ (HQ.out _ (xD.trans ((AC _ w3).alloc xD.size _).drew)) (fun _=>?_);clear hK K;try go_frame
       refine tkV 57 8 (.agg (Cp M q s f p none 0 0 w3.heap.size)) (fun wq _=>Fq M q s f p w3.heap.size (.tmp 49) (.tmp 52) (.tmp 53) (.tmp 54) (.tmp 55) (.tmp 56) rfl rfl rfl rfl rfl rfl rfl wq) ?_;go_frame;refine rd1 9 fun K hK=>?_
       go_simp;refine hK.out _ _ (HQ.out _ (xD.trans (((AC _ w3).alloc xD.size _).alloc (AG xD.size (by simp)) _).drew)) (fun _=>?_);clear hK K;try go_frame
       refine tkD 17 10 ?_;go_frame;refine dnD ?_;go_wp2_with fail
       go_meet;refine⟨w3.heap.size+1,w3.heap.size,?_,?_,?_,Nat.le_succ _,AB _,?_⟩
       ·first|rfl|simp
       ·have:=Blk.new (w3.alloc (.map #[] 0)) 229 (Cp M q s f p none 0 0 w3.heap.size);rwa[World.size_alloc]at this
       ·exact(Bj.new DM w3).alloc _
       ·exact(((AC w3.heap.size w3).alloc (AB _) _).alloc (by simp) _).drew
      ·go_simp;refine hK.out _ _ (HQ.out _ (xD.trans ((AC _ w3).alloc xD.size _).drew)) (fun _=>?_);clear hK K;try go_frame
       refine rd1 3 fun K hK=>?_
       go_simp;refine(HQu.out _).mono ?_;rintro en w5 ⟨rfl,hw5⟩;replace hw5:=hw5.symm;subst hw5;go_wp2_with fail
       refine hK.out _ _ (HQ.out _ (xD.trans ((AC _ w3).alloc xD.size _).drew)) (fun _=>?_);clear hK K;try go_frame
       refine tkV 57 8 (.agg (Cp M q s f p none 0 0 w3.heap.size)) (fun wq _=>Fq M q s f p w3.heap.size (.tmp 49) (.tmp 52) (.tmp 53) (.tmp 54) (.tmp 55) (.tmp 56) rfl rfl rfl rfl rfl rfl rfl wq) ?_;go_frame;refine rd1 9 fun K hK=>?_
       go_simp;refine hK.out _ _ (HQ.out _ (xD.trans (((AC _ w3).alloc xD.size _).alloc (AG xD.size (by simp)) _).drew)) (fun _=>?_);clear hK K;try go_frame
       refine tkD 17 10 ?_;go_frame;refine dnD ?_;go_wp2_with fail
       go_meet;refine⟨w3.heap.size+1,w3.heap.size,?_,?_,?_,Nat.le_succ _,AB _,?_⟩
       ·first|rfl|simp
       ·have:=Blk.new (w3.alloc (.map #[] 0)) 229 (Cp M q s f p none 0 0 w3.heap.size);rwa[World.size_alloc]at this
       ·exact(Bj.new DM w3).alloc _
       ·exact(((AC w3.heap.size w3).alloc (AB _) _).alloc (by simp) _).drew
     ·go_simp;refine hK.out _ _ (HQ.out _ (xD.trans ((AC _ w3).alloc xD.size _).drew)) (fun _=>?_);clear hK K;try go_frame
      refine rd1 2 fun K hK=>?_
      go_simp;refine(HSz.out _).mono ?_;rintro en w5 ⟨rfl,hw5⟩;replace hw5:=hw5.symm;subst hw5;go_wp2_with fail
      refine hK.out _ _ (HQ.out _ (xD.trans ((AC _ w3).alloc xD.size _).drew)) (fun _=>?_);clear hK K;try go_frame
      refine rd1 3 fun K hK=>?_
      go_simp;refine(HQu.out _).mono ?_;rintro en w5 ⟨rfl,hw5⟩;replace hw5:=hw5.symm;subst hw5;go_wp2_with fail
      refine hK.out _ _ (HQ.out _ (xD.trans ((AC _ w3).alloc xD.size _).drew)) (fun _=>?_);clear hK K;try go_frame
      refine tkV 57 8 (.agg (Cp M q s f p none 0 0 w3.heap.size)) (fun wq _=>Fq M q s f p w3.heap.size (.tmp 49) (.tmp 52) (.tmp 53) (.tmp 54) (.tmp 55) (.tmp 56) rfl rfl rfl rfl rfl rfl rfl wq) ?_;go_frame;refine rd1 9 fun K hK=>?_
      go_simp;refine hK.out _ _ (HQ.out _ (xD.trans (((AC _ w3).alloc xD.size _).alloc (AG xD.size (by simp)) _).drew)) (fun _=>?_);clear hK K;try go_frame
      refine tkD 17 10 ?_;go_frame;refine dnD ?_;go_wp2_with fail
      go_meet;refine⟨w3.heap.size+1,w3.heap.size,?_,?_,?_,Nat.le_succ _,AB _,?_⟩
      ·first|rfl|simp
      ·have:=Blk.new (w3.alloc (.map #[] 0)) 229 (Cp M q s f p none 0 0 w3.heap.size);rwa[World.size_alloc]at this
      ·exact(Bj.new DM w3).alloc _
      ·exact(((AC w3.heap.size w3).alloc (AB _) _).alloc (by simp) _).drew
    case rest=>
     obtain⟨b,mo,rfl,hB4,hM4,xT,hGb,hb4⟩:=hcut;generalize wc=w4 at*;have xl:=xD.trans (hb4.mono xD.size);have yW:=HB1.out.trans (xl.mono HB1.out.size);have hbl:b<w4.heap.size:=hB4.lt;have hml:mo<w4.heap.size:=hM4.is.lt;have hbg:w0.heap.size<=b:=AG xd.size xT;have HB4:=AA hB4;have HM4:=AA hM4;clear hB4 hM4;go_wp2
     go_loopw [16,61] (fun v iv wr=>WF l s p M q f b mo w3 v iv wr) (fun _ iv _=>n-(intOf iv).toNat)
     case atStart=>exact⟨0,[],[],rfl,Nat.zero_le _,Nat.zero_le _,by simp[spF],⟨by simp,.inl ⟨rfl,rfl⟩⟩,HB4.out,HM4.out,OwB.nil s p f,hb4⟩
     case round=>
      obtain⟨i,D,kl,rfl,hin,hDi,hD,xB,hBv,hMv,how,hbw⟩:=hrel;rw[HN.out]at hin;have HDe:=AA hD;have xF:=AA xB;have HBv:=AA hBv;have HMv:=AA hMv;have HOw:=AA how;have hD6:D.length<=1000000:=by omega
      have yb:=xD.trans (hbw.mono xD.size);clear hD xB hBv hMv how;by_cases hi:i<n
      ·have di:=Wu (show i<n by omega)
       obtain⟨x,hx⟩:∃x,l[i]? =some x:=⟨_,AE (by rw[HN.out];exact hi)⟩;obtain⟨b0,o,rfl,hb,xH⟩:=(HRl.out _ hbx).cells (by intro e;have:=AY vtc 22 l (CI l);rw[e,HN.out]at this;simp at this;omega);clear xH;have x1:AK wr b0 (o+i*22) 22=some x.cells:=(HRl.out _ yb).voteRow hx;have HXx:=AA hx;have HXv:=AA (HL.out x (AN hx));clear hx;go_upto_region 8 with(refine AJ rfl 46 (.tmp 19) (.tmp 64) rfl wr.heap.size x.cells rfl rfl 46 Bk.cells (Blk.new wr _ _) (by rfl) (by kernel_rfl) (fun u hu=>BH x hu) ?_;intro w5 hB5 hg5 yi)
       have xr:Hid (w5.ownsRow w3.heap.size 46 22 u16 D.length (D.flatMap vtc)):=Ba (xF.out.alloc _) hg5 (fun k hk=>by
        injection hk with hk
        subst hk;right;intro e;have:=(xF.out.lt _ e).2;omega)
       have xS:Wx w3 w5:=(hbw.alloc hbw.size _).grown hg5 (AG hbw.size (by simp)) (Wt hbw.size);have hDf:Hid (Blk w5 b 229 (Cp M q s f p none 0 0 mo)):=(HBv.out.alloc _).kept hg5 (by intro e;injection e with e;have:=HBv.out.lt;omega);have hDg:Hid (Bj DM w5 mo kl):=(HMv.out.alloc _).kept hg5 (by intro e;injection e with e;have:=HMv.out.is.lt;omega);obtain⟨z,hz⟩:=Wr wr.heap.size;have HZr:Hid (some z≠u16.ownBlock):=by
        intro e;rw[hz]at e;have:=(xF.out.lt _ e.symm).2;omega
       rw[<-hz]at hB5 ⊢;have hzb:z≠b:=by have:=HBv.out.lt;omega
       have hzm:z≠mo:=by have:=HMv.out.is.lt;omega
       have hzq:w3.heap.size<=z:=by rw[hz];exact hbw.size
       have xa:=xD.trans (xS.mono xD.size);have x3:AK w5 z 0 22=some x.cells:=hB5.row 22 rfl;have x4:w5.cell? ⟨z,1,none⟩=some (.int .i64 x.slot):=hB5.cell 1;have x6:AK w5 z 6 8=some x.parent.cells:=x.row_parent hB5;have y5:AK w5 qb 0 8=some p.cells:=HQ.out _ xa;have HZ5:=AA hB5;clear hB5 hg5 yi x1 hz xF hbw yb;try go_frame
       by_cases h1:x.slot=(s:Int)
       rotate_left
       ·have e1:(x.slot==(s:Int))=false:=by simpa using h1
        have HSl:=AA h1;clear h1;go_wp2;go_roundw
        case rel=>exact⟨i+1,D,kl,by go_num,by rw[HN.out];omega,by omega,(by rw[Jk HXx.out (fun h=>HSl.out h.1)];exact HDe.out),xr.out,hDf.out,hDg.out,HOw.out.miss HXx.out (fun h=>HSl.out h.1),xS⟩
        case measure=>simp[intOf];omega
       have e1:(x.slot==(s:Int))=true:=by rw[h1];exact beq_self_eq_true _
       have HSl:=AA h1;clear h1;by_cases h2:x.parent=p
       rotate_left
       ·have e2:∀W,(Op.equalIn 10000 24 (.agg x.parent.cells) (.agg p.cells)).run prog W= .ok false W:=fun W=>by
         have h:=EW x.parent p W 9998;rwa[decide_eq_false h2]at h
        have HPa:=AA h2;clear h2;go_wp2;go_roundw
        case rel=>exact⟨i+1,D,kl,by go_num,by rw[HN.out];omega,by omega,(by rw[Jk HXx.out (fun h=>HPa.out h.2)];exact HDe.out),xr.out,hDf.out,hDg.out,HOw.out.miss HXx.out (fun h=>HPa.out h.2),xS⟩
        case measure=>simp[intOf];omega
       have e2:∀W,(Op.equalIn 10000 24 (.agg x.parent.cells) (.agg p.cells)).run prog W= .ok true W:=fun W=>by
        have h:=EW x.parent p W 9998;rwa[decide_eq_true h2]at h
       have HPa:=AA h2;clear h2;go_wp2_with ((first
        |(refine BQ rfl 56 46 (.tmp 76) rfl x.cells rfl underlying56 (by kernel_rfl) (by decide) (by decide) ?_)
        |(at_builtin;refine Ar rfl (.tmp 75) (.tmp 77) _ rfl w3.heap.size 46 (.agg Bk.cells) 22 64 underlying56 CE rfl (by decide) u16 D.length (D.flatMap vtc) rfl ?r0 (w5.heap.size+1) (some ⟨w5.heap.size,0,none⟩) 1 1 (vtc x) rfl ?r1 ?r2 ?r3 ?r4 ?r5 ?r6 ?_)))
       case r0=>exact xr.out.alloc _
       case r1=>rfl
       case r2=>exact Rd.mk (by omega) (fun j u hu=>by rw[Nat.zero_add,(Blk.new w5 _ _).cell];simpa using hu)
       case r3=>exact fun u hu=>BH x hu
       case r4=>omega
       case r5=>unfold maxLen;omega
       case r6=>have:=xS.size;simp;omega
       intro v7 w7 xE hg7 xo;have yL:Wx w3 w7:=BO (xS.alloc xS.size _) (xr.out.alloc _) hg7;have hEh:Hid (Blk w7 b 229 (Cp M q s f p none 0 0 mo)):=(hDf.out.alloc _).kept hg7 (CO xr.out hDf.out (by decide));have hDh:Hid (Bj DM w7 mo kl):=(hDg.out.alloc _).kept hg7 (Kx hDg.out xr.out);have hzr:=HZr.out;have HZ7:Hid (Blk w7 z 46 x.cells):=(HZ5.out.alloc _).kept hg7 hzr;have xO:=AA xE;have xc:=xD.trans (yL.mono xD.size);have x7:w7.cell? ⟨z,4,none⟩=some (.int .i64 x.signer):=HZ7.out.cell 4;have x8:AK w7 z 0 22=some x.cells:=HZ7.out.row 22 rfl;have HDn:Hid (D++[x]=spF s p (l.take (i+1))):=by unfold Hid;rw[Ld HXx.out HSl.out HPa.out,<-HDe.out]
       have HOr:Hid (∀W,w7.grownBy W (some mo)->W.ownsRow w3.heap.size 46 22 v7 (D++[x]).length ((D++[x]).flatMap vtc)):=fun W hW=>by
        have h:=Ba xO.out hW (Wt (.inr (fun e=>Kx hDh.out xO.out e.symm)));rw[AI,Af];simpa using h
       have HDl:Hid ((D++[x]).length<=i+1):=by unfold Hid;rw[AI,List.length_singleton];omega
       clear xE hg7 xo x3 x4 x6 y5 xr hzr;by_cases h3:x.signer=f
       rotate_left
       ·have e3:(x.signer==f)=false:=by simpa using h3
        have hCq:=AA (HOw.out.other HXx.out HSl.out HPa.out h3);clear h3;go_wp2;go_roundw
        case rel=>exact⟨i+1,D++[x],kl,by go_num,by rw[HN.out];omega,HDl.out,HDn.out,HOr.out _ (Al w7 mo),hEh.out,hDh.out,hCq.out,yL⟩
        case measure=>simp[intOf];omega
       have e3:(x.signer==f)=true:=by rw[h3];exact beq_self_eq_true _
       have HSg:=AA h3;have yp:Hid (∀W,Calls prog 49 #[x.val] W (An W true)):=fun W=>by
        have h:=De x W ⟨by have:=HXv.out.2.2.2.1;omega,by have:=HXv.out.2.2.2.1;omega⟩;rwa[decide_eq_true HXv.out]at h
       clear h3;go_upto_region 11 with(go_at_call 49;refine(yp.out _).mono ?_;rintro en w8 ⟨rfl,hb8⟩)
       have hbw8:=yL.trans (hb8.mono yL.size);have HZ8:Hid (Blk w8 z 46 x.cells):=HZ7.out.below hb8 HZ7.out.lt;have hDj:Hid (Blk w8 b 229 (Cp M q s f p none 0 0 mo)):=hEh.out.below hb8 hEh.out.lt;have hBX:Hid (Bj DM w8 mo kl):=hDh.out.below hb8 hDh.out.is.lt;have hGc:Hid (w7.grownBy w8 (some mo)):=Br hb8;have xw:=xD.trans (hbw8.mono xD.size);obtain⟨zn,hzn,hzi,hzd⟩:=HOw.out x.kind x.round;have HZn:=AA hzn;have hwz:IntKind.i64.wrap ((zn:Int)+1)=((zn+1:Nat):Int):=by rw[IntKind.wrap_i64];omega
       have hbm:b≠mo:=fun e=>Ky hBX.out hDj.out e.symm
       have HS:Hid (∀V,w8.grownBy V (some mo)->V.cell? ⟨b,13,none⟩=some (.map (some mo))/\V.cell? ⟨z,0,none⟩=some (.int .i64 x.kind)/\V.cell? ⟨z,2,none⟩=some (.int .i64 x.round)):=fun V hV=>
        ⟨(hDj.out.kept hV (by intro e;injection e with e;exact hbm e)).cell 13,(HZ8.out.kept hV (by intro e;injection e with e;exact hzm e)).cell 0,(HZ8.out.kept hV (by intro e;injection e with e;exact hzm e)).cell 2⟩
       clear hzn hzd yp x7 x8 hb8 HBv HMv;refine rgD (fun V=>V.cell? ⟨b,13,none⟩=some (.map (some mo))/\V.cell? ⟨z,0,none⟩=some (.int .i64 x.kind)/\V.cell? ⟨z,2,none⟩=some (.int .i64 x.round)) (HS.out _ (BZ (Al w8 mo))) fun _=>?_
       iterate 9 (refine tkA ?_;go_frame)
       refine rd2 9 11 (fun K hK=>?_) fun K hK=>?_
       ·rw[if_pos (by rfl)];refine B9 (.int .i64 (zn:Int)) ((Kw (.tmp 90) (.tmp 95) rfl mo (x.kind,x.round) rfl rfl (w:=w8.drew) (hBX.out.below (AC w8.heap.size w8).drew hBX.out.is.lt)).trans (by rw[HZn.out])) ?_;refine hK.out _ _ (HS.out _ (BZ (Al w8 mo))) (fun _=>?_);clear hK K;try go_frame
        refine tkD 97 10 ?_;go_frame;refine rd1 11 fun K hK=>?_
        rw[if_pos (by rfl)];refine Om (.tmp 90) (.tmp 95) rfl mo (x.kind,x.round) rfl rfl (w:=w8.drew) (hBX.out.below (AC w8.heap.size w8).drew hBX.out.is.lt) ?_;intro w9 b9 v9 kl9 hE9 hA9 hg9 hs9;have hGf:Hid ((BR (x.kind,x.round) kl9).getD (.int .i64 0)= .int .i64 (zn:Int)):=by(unfold Hid;rw[hA9 (x.kind,x.round),if_pos rfl,Option.getD_some];exact HZn.out)
        have HA9:=AA hA9;have hCP:Hid (w8.grownBy w9 (some mo)):=(BZ (Al w8 mo)).trans hg9;have HE9:=AA hE9;clear hE9 hA9 hg9;refine hK.out _ _ (HS.out _ hCP.out) (fun _=>?_);clear hK K;try go_frame
        refine tkD 99 12 ?_;go_frame;refine rd1 13 fun K hK=>?_
        rw[if_pos (by rfl)];refine On (.tmp 90) (.tmp 99) (.tmp 97) rfl mo b9 (x.kind,x.round) (.int .i64 ((zn+1:Nat):Int)) rfl rfl (by first|rfl|(rw[<-hwz];rfl)) (w:=w9) HE9.out ?_;intro w10 kl10 hCr hCt yI hET;have hEi:=AA hCr;have zh:Hid (w8.grownBy w10 (some mo)):=hCP.out.trans yI;have hEj:=AA hCt;clear hCr hCt yI;refine hK.out _ _ (HS.out _ zh.out) (fun _=>?_);clear hK K;try go_frame
        refine dnD ?_;have hCq:=AA (HOw.out.hit HXx.out HSl.out HPa.out HSg.out HZn.out HA9.out hEi.out);have zi:Hid (w7.grownBy w10 (some mo)):=hGc.out.trans zh.out;have hCu:Wx w3 w10:=yL.grown zi.out yL.size (Wt hGb);go_wp2_with fail
        go_roundw
        case rel=>exact⟨i+1,D++[x],kl10,by go_num,by rw[HN.out];omega,HDl.out,HDn.out,HOr.out _ zi.out,hDj.out.kept zh.out (by intro e;injection e with e;exact hbm e),hEj.out,hCq.out,hCu⟩
        case measure=>simp[intOf];omega
       ·rw[if_pos (by rfl)];refine Om (.tmp 90) (.tmp 95) rfl mo (x.kind,x.round) rfl rfl (w:=w8.drew) (hBX.out.below (AC w8.heap.size w8).drew hBX.out.is.lt) ?_;intro w9 b9 v9 kl9 hE9 hA9 hg9 hs9;have hGf:Hid ((BR (x.kind,x.round) kl9).getD (.int .i64 0)= .int .i64 (zn:Int)):=by(unfold Hid;rw[hA9 (x.kind,x.round),if_pos rfl,Option.getD_some];exact HZn.out)
        have HA9:=AA hA9;have hCP:Hid (w8.grownBy w9 (some mo)):=(BZ (Al w8 mo)).trans hg9;have HE9:=AA hE9;clear hE9 hA9 hg9;refine hK.out _ _ (HS.out _ hCP.out) (fun _=>?_);clear hK K;try go_frame
        refine tkD 99 12 ?_;go_frame;refine rd1 9 fun K hK=>?_
        rw[if_pos (by rfl)];refine B9 (.int .i64 (zn:Int)) ((Kw (.tmp 90) (.tmp 95) rfl mo (x.kind,x.round) rfl rfl (w:=w9) HE9.out.isB).trans (by rw[hGf.out])) ?_;refine hK.out _ _ (HS.out _ hCP.out) (fun _=>?_);clear hK K;try go_frame
        refine tkD 97 10 ?_;go_frame;refine rd1 13 fun K hK=>?_
        rw[if_pos (by rfl)];refine On (.tmp 90) (.tmp 99) (.tmp 97) rfl mo b9 (x.kind,x.round) (.int .i64 ((zn+1:Nat):Int)) rfl rfl (by first|rfl|(rw[<-hwz];rfl)) (w:=w9) HE9.out ?_;intro w10 kl10 hCr hCt yI hET;have hEi:=AA hCr;have zh:Hid (w8.grownBy w10 (some mo)):=hCP.out.trans yI;have hEj:=AA hCt;clear hCr hCt yI;refine hK.out _ _ (HS.out _ zh.out) (fun _=>?_);clear hK K;try go_frame
        refine dnD ?_;have hCq:=AA (HOw.out.hit HXx.out HSl.out HPa.out HSg.out HZn.out HA9.out hEi.out);have zi:Hid (w7.grownBy w10 (some mo)):=hGc.out.trans zh.out;have hCu:Wx w3 w10:=yL.grown zi.out yL.size (Wt hGb);go_wp2_with fail
        go_roundw
        case rel=>exact⟨i+1,D++[x],kl10,by go_num,by rw[HN.out];omega,HDl.out,HDn.out,HOr.out _ zi.out,hDj.out.kept zh.out (by intro e;injection e with e;exact hbm e),hEj.out,hCq.out,hCu⟩
        case measure=>simp[intOf];omega
      ·have di:=Wv (show n<=i by omega)
       have hAj:i=n:=by omega
       have yk:D=spF s p l:=by
        have h:=HDe.out;rw[AT (by rw[HN.out];omega)]at h;exact h
       have HOwl:Hid (OwB s p f l i kl):=by
        have h:=HOw.out;rw[AT (by rw[HN.out];omega)]at h;exact h
       obtain⟨A1,c1,hu16,hR1,zT⟩:=Jo xF.out;subst hu16;have hm:∀v∈D,AW v/\v.slot=(s:Int):=fun v hv=>by
        rw[yk]at hv;exact⟨HL.out v (Oo hv).1,(Oo hv).2.1⟩
       have hnb:some b≠(Value.slice A1 D.length c1).ownBlock:=CO xF.out HBv.out (by decide);have hEF:∀p',A1=some p'->some p'.block≠some b:=fun p' h e=>hnb (by rw[zT p' h];exact e.symm)
       have HNe1:=AA hEF;have za:=AA (Jb M p A1 D.length c1 D (s:Int) wr rfl hR1 hD6 hm (by simpa using yz.out));have HR1:=AA hR1;have yV:=AA yk;have HDm:=AA hm;have y1:AK wr qb 0 8=some p.cells:=HQ.out _ yb;have y6:wr.cell? ⟨b,12,none⟩=some (.slice none 0 0):=HBv.out.cell 12;obtain⟨nD,hnD⟩:=Wr D.length;rw[<-hnD]at za hD6 ⊢;have HND:Hid (D.length=nD):=hnD.symm;clear yk hm hR1 xF HOw HDe zT hEF hnb hnD hDi;go_upto_region 13 with fail
       go_wp2_with fail
       refine za.out.mono ?_;rintro en wa ⟨va,O,rfl,hO,hOn,hCw,hba⟩;obtain⟨AO,cO,rfl,hRO,hGg⟩:=Jo hCw;have hAV:=hbw.trans (hba.mono hbw.size);have hCQ:Hid (Blk wa b 229 (Cp M q s f p none 0 0 mo)):=HBv.out.below hba HBv.out.lt;have hEk:Hid (Bj DM wa mo kl):=HMv.out.below hba HMv.out.is.lt;have HRa:Hid (Rd wa wa.heap.size A1 (D.flatMap vtc)):=(HR1.out.below hba).more hba.size;have y7:wa.cell? ⟨b,12,none⟩=some (.slice none 0 0):=hCQ.out.cell 12;have y8:wa.frozen? ⟨b,12,none⟩=false:=hCQ.out.frozen 12;have hGh:some b≠(Value.slice AO O.length cO).ownBlock:=CO hCw hCQ.out (by decide);have hEG:∀p',AO=some p'->some p'.block≠some b:=fun p' h e=>hGh (by rw[hGg p' h];exact e.symm)
       have HRO:=AA hRO;have HNeO:=AA hEG;have HO:=AA hO;have hO6:O.length<=1000000:=by omega
       clear hO hCw hGg hEG hGh hRO za y1 y6 hba HBv HMv HR1;go_upto_region 14 with fail
       obtain⟨w5,hw5⟩:=Wr (wa.setCell ⟨b,12,none⟩ (.slice AO O.length cO));rw[<-hw5];have hg5:wa.grownBy w5 (some b):=by rw[hw5];exact Bl (p:=⟨b,12,none⟩) (Al wa b) rfl _
       have xS:Wx w3 w5:=hAV.grown hg5 hAV.size (Wt xT);have xa:=xD.trans (xS.mono xD.size);have hV5:FL w5 b M (q:Int) (s:Int) f p AO cO mo O (owF s p f l):=⟨by rw[hw5];exact hCQ.out.put 12 _,(HRO.out.kept hg5 (AB _) HNeO.out).more hg5.size,kl,hEk.out.kept hg5 (by intro e;injection e with e;exact Ky hEk.out hCQ.out e),fun k r=>by obtain⟨z,h1,_,h3⟩:=HOwl.out k r;exact⟨z,h1,h3⟩⟩;have hR5:Rd w5 w5.heap.size A1 (D.flatMap vtc):=(HRa.out.kept hg5 (AB _) HNe1.out).more hg5.size;have hOv:∀v∈O,AW v:=fun v hv=>(HDm.out v (HO.out.1.2 v hv).1).1
       have HE:Hid (Calls prog 160 #[.pointer (some ⟨b,0,none⟩),.slice A1 nD c1,.slice AH nH cH] w5 (DA (Ff M p s f D H (owF s p f l)) w5)):=Rb hV5 A1 nD c1 D HND.out hR5 hD6 (fun v hv=>(HDm.out v hv).1) yz.out AH nH cH H HNH.out (HRH.out _ xa) hDX;have HFi:Hid (∀V,Wx w5 V->Calls prog 161 #[.pointer (some ⟨b,0,none⟩),.slice A1 nD c1,.bool wt] V (DA (EJ M q p s f D wt (owF s p f l)) V)):=fun V hV=>P9 (hV5.below hV) HQe.out yg A1 nD c1 D HND.out ((hR5.below hV).more hV.size) hD6 (fun v hv=>(HDm.out v hv).1) yz.out wt
       have HPc:Hid (∀(r:Nat) V,Wx w5 V->Calls prog 162 #[.pointer (some ⟨b,0,none⟩),.int .i64 (r:Int)] V (DA (Db q p s f O (owF s p f l) r) V)):=fun r V hV=>Kc (hV5.below hV) yg hOv hO6 r
       have HPv:Hid (∀(r:Nat) V,r<=12->Wx w5 V->Calls prog 163 #[.pointer (some ⟨b,0,none⟩),.int .i64 (r:Int)] V (DA (E7 q p s f O (owF s p f l) (r:Int)) V)):=fun r V hr hV=>Mc (hV5.below hV) hq1 yg hOv hO6 r hr
       have HOa:Hid (D0 M p (s:Int) (spF s p l) O):=by unfold Hid;rw[<-yV.out];exact HO.out
       have HFd:Hid ((0<=f/\f<=9)/\(xOf M).testBit f.toNat=true):=⟨HF.out,HD0.out⟩;have NE:Hid (∀v,Ff M p s f D H (owF s p f l) (some v)->Ce M (Bd (Ae (xOf M) 10)) p s f l H wt (some v)):=fun v h=>by rw[<-HQe.out];exact⟨HFd.out,yz.out,HOg.out,.inl (by rw[<-yV.out];exact h)⟩
       have NF:Hid (Ff M p s f D H (owF s p f l) none->∀v,EJ M q p s f D wt (owF s p f l) (some v)->Ce M (Bd (Ae (xOf M) 10)) p s f l H wt (some v)):=fun h0 v h=>by rw[<-HQe.out];exact⟨HFd.out,yz.out,HOg.out,.inr ⟨by rw[<-yV.out];exact h0,.inl (by rw[<-yV.out];exact h)⟩⟩
       have NP:Hid (Ff M p s f D H (owF s p f l) none->EJ M q p s f D wt (owF s p f l) none->∀(r:Nat) v,1<=r->r<=12->(∀r':Int,1<=r'->r'<r->Db q p s f O (owF s p f l) r' none)->(Db q p s f O (owF s p f l) r (some v)∨((r:Int)<12/\Db q p s f O (owF s p f l) r none/\E7 q p s f O (owF s p f l) r (some v)))->Ce M (Bd (Ae (xOf M) 10)) p s f l H wt (some v)):=fun h0 h1 r v hr1 hr2 hno h=>by
        rw[<-HQe.out];exact⟨HFd.out,yz.out,HOg.out,.inr ⟨by rw[<-yV.out];exact h0,.inr ⟨by rw[<-yV.out];exact h1,O,(r:Int),HOa.out,by omega,by omega,hno,h⟩⟩⟩
       have NN:Hid (Ff M p s f D H (owF s p f l) none->EJ M q p s f D wt (owF s p f l) none->(∀r:Int,1<=r->r<=12->Db q p s f O (owF s p f l) r none/\(r<12->E7 q p s f O (owF s p f l) r none))->Ce M (Bd (Ae (xOf M) 10)) p s f l H wt none):=fun h0 h1 hno=>by
        rw[<-HQe.out];exact .inr (.inr (.inr ⟨HOg.out,by rw[<-yV.out];exact h0,by rw[<-yV.out];exact h1,O,HOa.out,hno⟩))
       have hb55:Wx w5 w5:=AC _ _;have h15:w1.heap.size<=w5.heap.size:=xa.size;clear hw5 hg5 hV5 hR5 hOv y7 y8 hCQ hEk HRa HO HRO;go_wp2_with fail
       refine HE.out.mono ?_;rintro en w6 ⟨o6,rfl,hR6,hb6⟩;have HR6:=AA hR6;have xx:=xa.trans (hb6.mono xa.size);clear hR6;cases o6 with
       |some v=>
        simp only[Fj,Option.isSome_some];go_upto_region 15 with(refine AJ rfl 46 (.tmp 20) (.tmp 113) rfl w6.heap.size v.cells rfl rfl 46 Bk.cells (Blk.new w6 _ _) (by rfl) (by kernel_rfl) (fun u hu=>BH v hu) ?_;intro wz6 hBz hgz hsz)
        have h5z6:Wx w5 wz6:=(hb6.alloc hb6.size _).grown hgz (AG hb6.size (by simp)) (Wt hb6.size);have hCx:Wx w1 wz6:=(xx.alloc xx.size _).grown hgz (AG xx.size (by simp)) (Wt xx.size);have hb0z:=HB1.out.trans (hCx.mono HB1.out.size);have xz:AK wz6 w6.heap.size 0 22=some v.cells:=hBz.row 22 rfl;obtain⟨zz,hzz⟩:=Wr w6.heap.size;rw[<-hzz]at xz ⊢;clear hzz hBz hgz hsz;go_wp2_with (refine AJ rfl 46 (.tmp 14) (.tmp 116) rfl g (v).cells rfl rfl 46 Ai (HG.out _ hCx) rfl Ao (fun u hu=>BH _ hu) ?_;intro w9 hR9 hg9 xg)
        refine bodyPost_ret (Ac (g:=g) (cs:=(v).cells) rfl _ _ _ _ _ rfl hR9 underlying46 rfl Ao) rfl ⟨some (v),rfl,NE.out v HR6.out,?_⟩;exact Below.grown (hb0z) hg9 (Below.size (hb0z)) (Wt hgw)
       |none=>
        simp only[Fj,Option.isSome_none];go_upto_region 15 with(refine AJ rfl 46 (.tmp 20) (.tmp 113) rfl w6.heap.size Ai rfl rfl 46 Bk.cells (Blk.new w6 _ _) (by rfl) (by kernel_rfl) (fun u hu=>CL hu) ?_;intro wz6 hBz hgz hsz)
        have h5z6:Wx w5 wz6:=(hb6.alloc hb6.size _).grown hgz (AG hb6.size (by simp)) (Wt hb6.size);have hCx:Wx w1 wz6:=(xx.alloc xx.size _).grown hgz (AG xx.size (by simp)) (Wt xx.size);clear hBz hgz hsz;have HFi':=AA (HFi.out _ h5z6);go_wp2_with fail
        refine HFi'.out.mono ?_;rintro en w7 ⟨o7,rfl,hR7,hb7⟩;have HR7:=AA hR7;have xc:=hCx.trans (hb7.mono hCx.size);clear hR7;cases o7 with
        |some v=>
         simp only[Fj,Option.isSome_some];go_upto_region 18 with(refine AJ rfl 46 (.tmp 22) (.tmp 122) rfl w7.heap.size v.cells rfl rfl 46 Bk.cells (Blk.new w7 _ _) (by rfl) (by kernel_rfl) (fun u hu=>BH v hu) ?_;intro wz7 hBz hgz hsz)
         have h57:=h5z6.trans (hb7.mono h5z6.size);have h5z7:Wx w5 wz7:=(h57.alloc h57.size _).grown hgz (AG h57.size (by simp)) (Wt h57.size);have hEl:Wx w1 wz7:=(xc.alloc xc.size _).grown hgz (AG xc.size (by simp)) (Wt xc.size);have hb0z:=HB1.out.trans (hEl.mono HB1.out.size);have xz:AK wz7 w7.heap.size 0 22=some v.cells:=hBz.row 22 rfl;obtain⟨zz,hzz⟩:=Wr w7.heap.size;rw[<-hzz]at xz ⊢;clear hzz hBz hgz hsz;go_wp2_with (refine AJ rfl 46 (.tmp 14) (.tmp 125) rfl g (v).cells rfl rfl 46 Ai (HG.out _ hEl) rfl Ao (fun u hu=>BH _ hu) ?_;intro w9 hR9 hg9 xg)
         refine bodyPost_ret (Ac (g:=g) (cs:=(v).cells) rfl _ _ _ _ _ rfl hR9 underlying46 rfl Ao) rfl ⟨some (v),rfl,NF.out HR6.out v HR7.out,?_⟩;exact Below.grown (hb0z) hg9 (Below.size (hb0z)) (Wt hgw)
        |none=>
         simp only[Fj,Option.isSome_none];go_upto_region 18 with(refine AJ rfl 46 (.tmp 22) (.tmp 122) rfl w7.heap.size Ai rfl rfl 46 Bk.cells (Blk.new w7 _ _) (by rfl) (by kernel_rfl) (fun u hu=>CL hu) ?_;intro wz7 hBz hgz hsz)
         have h57:=h5z6.trans (hb7.mono h5z6.size);have h5z7:Wx w5 wz7:=(h57.alloc h57.size _).grown hgz (AG h57.size (by simp)) (Wt h57.size);have hEl:Wx w1 wz7:=(xc.alloc xc.size _).grown hgz (AG xc.size (by simp)) (Wt xc.size);clear hBz hgz hsz;go_wp2
         go_loopw [24] (fun iv wr=>∃r:Nat,iv= .int .i64 (r:Int)/\1<=r/\r<=13/\Wx w5 wr/\∀r':Int,1<=r'->r'<r->(Db q p s f O (owF s p f l) r' none/\(r'<12->E7 q p s f O (owF s p f l) r' none))) (fun iv _=>13-(intOf iv).toNat)
         case atStart=>exact⟨1,rfl,AB _,by omega,h5z7,fun r' h1 h2=>by omega⟩
         case round=>
          obtain⟨r,rfl,hr1,hr13,hbr,hno⟩:=hrel;have HNo:=AA hno;have hCB:=xa.trans (hbr.mono h15);clear hno;by_cases hr:r<=12
          ·have dr:decide ((r:Int)<=12)=true:=by simp;omega
           have HPc':=AA (HPc.out r _ hbr);go_wp2_with fail
           refine HPc'.out.mono ?_;rintro en w8 ⟨o8,rfl,hR8,hb8⟩;have HR8:=AA hR8;have xw:=hCB.trans (hb8.mono hCB.size);clear hR8;cases o8 with
           |some v=>
            simp only[Fj,Option.isSome_some];go_upto_region 24 with(refine AJ rfl 46 (.tmp 25) (.tmp 134) rfl w8.heap.size v.cells rfl rfl 46 Bk.cells (Blk.new w8 _ _) (by rfl) (by kernel_rfl) (fun u hu=>BH v hu) ?_;intro wz8 hBz hgz hsz)
            have h58:=hbr.trans (hb8.mono hbr.size);have h5z8:Wx w5 wz8:=(h58.alloc h58.size _).grown hgz (AG h58.size (by simp)) (Wt h58.size);have hCy:Wx w1 wz8:=(xw.alloc xw.size _).grown hgz (AG xw.size (by simp)) (Wt xw.size);have hb0z:=HB1.out.trans (hCy.mono HB1.out.size);have xz:AK wz8 w8.heap.size 0 22=some v.cells:=hBz.row 22 rfl;obtain⟨zz,hzz⟩:=Wr w8.heap.size;rw[<-hzz]at xz ⊢;clear hzz hBz hgz hsz;go_wp2_with (refine AJ rfl 46 (.tmp 14) (.tmp 137) rfl g (v).cells rfl rfl 46 Ai (HG.out _ hCy) rfl Ao (fun u hu=>BH _ hu) ?_;intro w9 hR9 hg9 xg)
            refine bodyPost_ret (Ac (g:=g) (cs:=(v).cells) rfl _ _ _ _ _ rfl hR9 underlying46 rfl Ao) rfl ⟨some (v),rfl,NP.out HR6.out HR7.out r v hr1 hr (fun r' a b=>(HNo.out r' a b).1) (.inl HR8.out),?_⟩;exact Below.grown (hb0z) hg9 (Below.size (hb0z)) (Wt hgw)
           |none=>
            simp only[Fj,Option.isSome_none];go_upto_region 24 with(refine AJ rfl 46 (.tmp 25) (.tmp 134) rfl w8.heap.size Ai rfl rfl 46 Bk.cells (Blk.new w8 _ _) (by rfl) (by kernel_rfl) (fun u hu=>CL hu) ?_;intro wz8 hBz hgz hsz)
            have h58:=hbr.trans (hb8.mono hbr.size);have h5z8:Wx w5 wz8:=(h58.alloc h58.size _).grown hgz (AG h58.size (by simp)) (Wt h58.size);have hCy:Wx w1 wz8:=(xw.alloc xw.size _).grown hgz (AG xw.size (by simp)) (Wt xw.size);clear hBz hgz hsz;have HPv':=AA (HPv.out r _ hr h5z8);go_wp2_with fail
            refine HPv'.out.mono ?_;rintro en w9 ⟨o9,rfl,hR9,hb9⟩;have HR9:=AA hR9;have hA8:=hCy.trans (hb9.mono hCy.size);clear hR9;cases o9 with
            |some v=>
             simp only[Fj,Option.isSome_some];go_upto_region 27 with(refine AJ rfl 46 (.tmp 27) (.tmp 142) rfl w9.heap.size v.cells rfl rfl 46 Bk.cells (Blk.new w9 _ _) (by rfl) (by kernel_rfl) (fun u hu=>BH v hu) ?_;intro wz9 hBz hgz hsz)
             have h59:=h5z8.trans (hb9.mono h5z8.size);have h5z9:Wx w5 wz9:=(h59.alloc h59.size _).grown hgz (AG h59.size (by simp)) (Wt h59.size);have hEm:Wx w1 wz9:=(hA8.alloc hA8.size _).grown hgz (AG hA8.size (by simp)) (Wt hA8.size);have hb0z:=HB1.out.trans (hEm.mono HB1.out.size);have xz:AK wz9 w9.heap.size 0 22=some v.cells:=hBz.row 22 rfl;obtain⟨zz,hzz⟩:=Wr w9.heap.size;rw[<-hzz]at xz ⊢;clear hzz hBz hgz hsz;by_cases hr12:r<12
             ·have d12:decide ((r:Int)<12)=true:=by simp;omega
              go_wp2_with (refine AJ rfl 46 (.tmp 14) (.tmp 149) rfl g (v).cells rfl rfl 46 Ai (HG.out _ hEm) rfl Ao (fun u hu=>BH _ hu) ?_;intro w9 hR9 hg9 xg)
              refine bodyPost_ret (Ac (g:=g) (cs:=(v).cells) rfl _ _ _ _ _ rfl hR9 underlying46 rfl Ao) rfl ⟨some (v),rfl,NP.out HR6.out HR7.out r v hr1 hr (fun r' a b=>(HNo.out r' a b).1) (.inr ⟨by omega,HR8.out,HR9.out⟩),?_⟩;exact Below.grown (hb0z) hg9 (Below.size (hb0z)) (Wt hgw)
             ·have d12:decide ((r:Int)<12)=false:=by simp;omega
              have hCz:Hid (∀r':Int,1<=r'->r'<((r+1:Nat):Int)->(Db q p s f O (owF s p f l) r' none/\(r'<12->E7 q p s f O (owF s p f l) r' none))):=fun r' h1 h2=>by
               by_cases h3:r'=(r:Int)
               ·rw[h3];exact⟨HR8.out,fun h=>absurd h (by omega)⟩
               ·exact HNo.out r' h1 (by omega)
              go_wp2;go_roundw
              case rel=>exact⟨r+1,by go_num,by omega,by omega,h5z9,hCz.out⟩
              case measure=>simp[intOf];omega
            |none=>
             simp only[Fj,Option.isSome_none];go_upto_region 27 with(refine AJ rfl 46 (.tmp 27) (.tmp 142) rfl w9.heap.size Ai rfl rfl 46 Bk.cells (Blk.new w9 _ _) (by rfl) (by kernel_rfl) (fun u hu=>CL hu) ?_;intro wz9 hBz hgz hsz)
             have h59:=h5z8.trans (hb9.mono h5z8.size);have h5z9:Wx w5 wz9:=(h59.alloc h59.size _).grown hgz (AG h59.size (by simp)) (Wt h59.size);have hEm:Wx w1 wz9:=(hA8.alloc hA8.size _).grown hgz (AG hA8.size (by simp)) (Wt hA8.size);clear hBz hgz hsz;have hCz:Hid (∀r':Int,1<=r'->r'<((r+1:Nat):Int)->(Db q p s f O (owF s p f l) r' none/\(r'<12->E7 q p s f O (owF s p f l) r' none))):=fun r' h1 h2=>by
              by_cases h3:r'=(r:Int)
              ·rw[h3];exact⟨HR8.out,fun _=>HR9.out⟩
              ·exact HNo.out r' h1 (by omega)
             go_wp2;go_roundw
             case rel=>exact⟨r+1,by go_num,by omega,by omega,h5z9,hCz.out⟩
             case measure=>simp[intOf];omega
          ·have dr:decide ((r:Int)<=12)=false:=by simp;omega
           have hb0r:=HB1.out.trans (hCB.mono HB1.out.size);go_wp2_with (refine AJ rfl 46 (.tmp 14) (.tmp 150) rfl g Ai rfl rfl 46 Ai (HG.out _ hCB) rfl Ao (fun u hu=>CL hu) ?_;intro w9 hR9 hg9 xg)
           refine bodyPost_ret (Ac (g:=g) (cs:=Ai) rfl _ _ _ _ _ rfl hR9 underlying46 rfl Ao) rfl ⟨none,rfl,NN.out HR6.out HR7.out (fun r' h1 h2=>HNo.out r' h1 (by omega)),?_⟩;exact Below.grown (hb0r) hg9 (Below.size (hb0r)) (Wt hgw)
def Cj(M:Int)(p:Nm)(f:Int)(l:List Vt)(H:List Nm)(wt:Bool):Option Vt->Prop
 |none=>∀s,s<=9->Ce M (Bd (Ae (xOf M) 10)) p s f l H wt none
 |some v=>∃s,s<=9/\(∀s',s'<s->Ce M (Bd (Ae (xOf M) 10)) p s' f l H wt none)/\Ce M (Bd (Ae (xOf M) 10)) p s f l H wt (some v)
theorem QD(M:Int)(p:Nm)(A:Option Addr)(n c:Nat)(l:List Vt)(f:Int)(AH:Option Addr)(nH cH:Nat)(H:List Nm)(wt:Bool)(w0:World)(hn:l.length=n)(hr:Rd w0 w0.heap.size A (l.flatMap vtc))(hsm:n<=1000000)(hl:∀v∈l,AW v)(hf:0<=f/\f<=9)(hnH:H.length=nH)(hrH:Rd w0 w0.heap.size AH (H.flatMap nmc))(hDX:nH<=1000000):Calls prog 75 #[.int .i64 M,p.val,.slice A n c,.int .i64 f,.slice AH nH cH,.bool wt] w0 (DA (Cj M p f l H wt) w0):=by
 obtain⟨w,hw⟩:=Wr (w0.alloc (.cells p.cells 24));obtain⟨w1,hw1⟩:=Wr (w.alloc (.cells Ai 46));have hs1:w.heap.size=w0.heap.size+1:=by rw[hw];simp
 have hb0:Wx w0 w:=by rw[hw];exact(AC _ _).alloc (AB _) _
 have hb1:Wx w0 w1:=by rw[hw1];exact hb0.alloc hb0.size _
 obtain⟨qb,hqb⟩:=Wr w0.heap.size;obtain⟨g,hg⟩:=Wr (w0.heap.size+1);have hQ1:Blk w1 qb 24 p.cells:=by rw[hw1,hw,hqb];exact(Blk.new w0 _ _).alloc _
 have hG1:Blk w1 g 46 Ai:=by rw[hw1,hg,<-hs1];exact Blk.new w _ _
 have hgw:w0.heap.size<=g:=by omega
 have HG:Hid (∀V,Wx w1 V->Blk V g 46 Ai):=fun V hV=>hG1.below hV hG1.lt
 have HQ:Hid (∀V,Wx w1 V->AK V qb 0 8=some p.cells):=fun V hV=>(hQ1.below hV hQ1.lt).row 8 rfl
 have HNx:Hid (∀(s:Nat) V,s<=9->Wx w1 V->Calls prog 111 #[.int .i64 M,p.val,.slice A n c,.int .i64 (s:Int),.int .i64 f,.slice AH nH cH,.bool wt] V (DA (Ce M (Bd (Ae (xOf M) 10)) p s f l H wt) V)):=fun s V hs hV=>
  Rp M p A n c l s f AH nH cH H wt V hn ((hr.below (hb1.trans (hV.mono hb1.size))).more (AG hb1.size hV.size)) hsm hl hs hf hnH ((hrH.below (hb1.trans (hV.mono hb1.size))).more (AG hb1.size hV.size)) hDX
 obtain⟨q,hq⟩:=Wr (Bd (Ae (xOf M) 10));have HSr:Hid (∀o,((o=none->∀s,s<=9->Ce M q p s f l H wt none)/\∀v,o=some v->∃s,s<=9/\(∀s',s'<s->Ce M q p s' f l H wt none)/\Ce M q p s f l H wt (some v))->Cj M p f l H wt o):=fun o h=>by
  rw[hq]at h;cases o with
  |none=>exact h.1 rfl
  |some v=>exact h.2 v rfl
 rw[<-hq]at HNx;have HB1:=AA hb1;have HW:=AA hw;have HW1:=AA hw1;have HGg:=AA hg;have HQb:=AA hqb;have hbx:Wx w1 w1:=AC _ _;clear hw hw1 hs1 hb0 hb1 hqb hg hQ1 hG1 hr hrH hf hn hl hnH hq;go_enter func75,ntmps75;go_upto_region 1 with fail
 simp only[<-HW.out,<-HW1.out,<-HGg.out];simp only[<-HQb.out];go_wp2
 go_loopw [17] (fun iv wr=>∃s:Nat,iv= .int .i64 (s:Int)/\s<=10/\Wx w1 wr/\∀s',s'<s->Ce M q p s' f l H wt none) (fun iv _=>10-(intOf iv).toNat)
 case atStart=>exact⟨0,rfl,Nat.zero_le _,hbx,fun s' h=>by omega⟩
 case round=>
  obtain⟨s,rfl,hET,hbr,hno⟩:=hrel;have HNo:=AA hno;clear hno;by_cases hs:s<10
  ·have ds:decide ((s:Int)<10)=true:=by simp;omega
   have y1:AK wr qb 0 8=some p.cells:=HQ.out _ hbr;have hBA:=AA (HNx.out s wr (by omega) hbr);go_wp2_with fail
   refine hBA.out.mono ?_;rintro en w5 ⟨o5,rfl,hR5,hb5⟩;have HR5:=AA hR5;have xa:=hbr.trans (hb5.mono hbr.size);clear hR5;cases o5 with
   |some v=>
    simp only[Fj,Option.isSome_some];go_upto_region 5 with(refine AJ rfl 46 (.tmp 15) (.tmp 29) rfl w5.heap.size v.cells rfl rfl 46 Bk.cells (Blk.new w5 _ _) (by rfl) (by kernel_rfl) (fun u hu=>BH v hu) ?_;intro wz5 hBz hgz hsz)
    have hDk:Wx w1 wz5:=(xa.alloc xa.size _).grown hgz (AG xa.size (by simp)) (Wt xa.size);have hb0z:=HB1.out.trans (hDk.mono HB1.out.size);have xz:AK wz5 w5.heap.size 0 22=some v.cells:=hBz.row 22 rfl;obtain⟨zz,hzz⟩:=Wr w5.heap.size;rw[<-hzz]at xz ⊢;clear hzz hBz hgz hsz;go_wp2_with (refine AJ rfl 46 (.tmp 12) (.tmp 32) rfl g (v).cells rfl rfl 46 Ai (HG.out _ hDk) rfl Ao (fun u hu=>BH _ hu) ?_;intro w9 hR9 hg9 xg)
    refine bodyPost_ret (Ac (g:=g) (cs:=(v).cells) rfl _ _ _ _ _ rfl hR9 underlying46 rfl Ao) rfl ⟨some (v),rfl,HSr.out (some v) ⟨fun h=>(by cases h),fun v' h=>by injection h with h;subst h;exact⟨s,by omega,HNo.out,HR5.out⟩⟩,?_⟩;exact Below.grown (hb0z) hg9 (Below.size (hb0z)) (Wt hgw)
   |none=>
    simp only[Fj,Option.isSome_none];go_upto_region 5 with(refine AJ rfl 46 (.tmp 15) (.tmp 29) rfl w5.heap.size Ai rfl rfl 46 Bk.cells (Blk.new w5 _ _) (by rfl) (by kernel_rfl) (fun u hu=>CL hu) ?_;intro wz5 hBz hgz hsz)
    have hDk:Wx w1 wz5:=(xa.alloc xa.size _).grown hgz (AG xa.size (by simp)) (Wt xa.size);clear hBz hgz hsz;have hCz:Hid (∀s',s'<s+1->Ce M q p s' f l H wt none):=fun s' h=>by
     by_cases h3:s'=s
     ·rw[h3];exact HR5.out
     ·exact HNo.out s' (by omega)
    go_wp2;go_roundw
    case rel=>exact⟨s+1,by go_num,by omega,hDk,hCz.out⟩
    case measure=>simp[intOf];omega
  ·have ds:decide ((s:Int)<10)=false:=by simp;omega
   have hb0r:=HB1.out.trans (hbr.mono HB1.out.size);go_wp2_with (refine AJ rfl 46 (.tmp 12) (.tmp 34) rfl g Ai rfl rfl 46 Ai (HG.out _ hbr) rfl Ao (fun u hu=>CL hu) ?_;intro w9 hR9 hg9 xg)
   refine bodyPost_ret (Ac (g:=g) (cs:=Ai) rfl _ _ _ _ _ rfl hR9 underlying46 rfl Ao) rfl ⟨none,rfl,HSr.out none ⟨fun _ s' h=>HNo.out s' (by omega),fun v h=>(by cases h)⟩,?_⟩;exact Below.grown (hb0r) hg9 (Below.size (hb0r)) (Wt hgw)
end
end Go.Proofs.YtadllffeoibelaaGreat
