/-
  What these parts of the proof come to, functions walked and plain laws: Out5. No condition.
-/
import Derived.Test.YtadllffeoibelaaGreatS28
import Derived.Test.YtadllffeoibelaaGreatS29
import Derived.Deep.DeepCutAuto
import Derived.Test.YtadllffeoibelaaGreatS6
namespace Go.Proofs.YtadllffeoibelaaGreat
set_option maxRecDepth 100000
set_option maxHeartbeats 32000000
set_option linter.all false
section
open Go.RowKit Go.Shelf
attribute [local go_sem ↓] Go.wp_at_zero Go.wp_at_succ An Au Av Aw Gq
attribute [local go_sem] BD BH BI BJ Jn AN AW AQ
def SmO(p:Nm)(l:List Vt):Prop:=(∀v∈l,¬(v.kind=4∧v.choice=2))∧(l.filter fun s=>decide (s.parent=p)).length≤12
def I6(M:Int)(p:Nm)(s:Nat)(l:List Vt)(L:List Oc):Prop:=
 ∃O:List Vt,Py M p (s:Int) l O∧(∀o∈L,o.slot=(s:Int)∧KN (xOf M) O o.round o.choice o.value)∧
  (SmO p l→O=Fl M (Lc p (slF s l))∧∀x∈O,x.kind=4→x.choice≠2→kyO s x∈L∨SW M s O x)
def I7(M:Int)(p:Nm)(s:Nat)(l:List Vt)(w:World)(e:Ending)(w':World):Prop:=
 ∃(v:Value) (L:List Oc),e= .returned v∧I6 M p s l L∧L.length≤l.length∧w'.ownsRow w.heap.size 142 11 v L.length (L.flatMap occ)∧Below w.heap.size w w'
theorem Lf(M:Int)(p:Nm)(A:Option Addr)(n c:Nat)(l:List Vt)(s:Nat)(w0:World)(hn:l.length=n)(hr:Rd w0 w0.heap.size A (l.flatMap vtc))(hsm:n≤1000000)(hl:∀v∈l,Ae v)(hs:(xOf M).testBit s=true):Calls Tryz.prog 79 #[.int .i64 M,p.val,.slice A n c,.int .i64 (s:Int)] w0 (I7 M p s l w0):=by
 obtain⟨w,hw⟩:∃wa,wa=w0.alloc (.cells p.cells 24):=⟨_,rfl⟩;have hb0:Below w0.heap.size w0 w:=by rw[hw];exact(AC _ _).alloc (AB _) _
 have hBq:Blk w w0.heap.size 24 p.cells:=by rw[hw];exact Blk.new w0 _ _
 obtain⟨q,hq⟩:∃q,q=w0.heap.size:=⟨_,rfl⟩;have HN:=AA hn;have HR:=AA ((hr.below hb0).more hb0.size);have HL:=AA hl;have HS:=AA hs;have HW:=AA hw;rw[←hq]at hBq;have HBq:=AA hBq;have hqw:q<w.heap.size:=hBq.lt;have HQ:=AA hq;obtain⟨nq,hnq⟩:∃n,n=At (xOf M) 10:=⟨_,rfl⟩;have hnq10:nq≤10:=by rw[hnq];exact D6 _ 10
 have HSz:Hid (∀X W,Calls Tryz.prog 15 #[.int .i64 X] W fun e w'=>e= .returned (.int .i64 ((At (xOf X) 10:Nat):Int))∧w'=W):=fun X W=>CU X W
 have HSzM:Hid (∀W,Calls Tryz.prog 15 #[.int .i64 M] W fun e w'=>e= .returned (.int .i64 (nq:Int))∧w'=W):=fun W=>by rw[hnq];exact CU M W
 have HQu:Hid (∀W,Calls Tryz.prog 115 #[.int .i64 (nq:Int)] W fun e w'=>e= .returned (.int .i64 ((B9 nq:Nat):Int))∧w'=W):=fun W=>Ej nq hnq10 W
 have HNq:=AA hnq;have HMid:=AA (fun W W' pb v D h1 h2 h3 h4=>RY W W' pb v D h1 h2 h3 h4);clear hn hr hl hs hw hBq hq hnq;have hmk:∀W:World,(Instr.makeMap 178 none).run Tryz.prog W= .ok (.map (some W.heap.size)) (W.alloc (.map #[] 0)):=fun W=>rfl
 go_enter Tryz.func79,Tryz.ntmps79;go_upto_region 1 with fail
 simp only[←HW.out,←HQ.out];go_wp2
 go_loopw [9,20] (fun v iv wr=>Ts l s w v iv wr) (fun _ iv _=>n-(intOf iv).toNat)
 case atStart=>exact⟨0,[],rfl,Nat.zero_le _,Nat.zero_le _,by simp[slF],⟨by simp,.inl ⟨rfl,rfl⟩⟩,AC _ _⟩
 case round=>
  obtain⟨i,D,rfl,hin,hDi,hD,hown,hbw⟩:=hrel;rw[HN.out]at hin;have HDe:=AA hD;have HD:Hid (∀x∈D,x∈l∧x.slot=(s:Int)∧x.kind≤4):=fun x hx=>by rw[hD]at hx;have h:=Ra hx;exact⟨List.mem_of_mem_take h.1,h.2⟩
  have HOwn:=AA hown;have hD6:D.length≤1000000:=by omega
  clear hD hown;by_cases hi:i<n
  ·have di:decide ((i:Int)<(n:Int))=true:=by simp;omega
   obtain⟨x,hx⟩:∃x,l[i]? =some x:=⟨_,AE (by rw[HN.out];exact hi)⟩;obtain⟨b,o,rfl,hb,hcell⟩:=HR.out.cells (by intro e;have:=AX vtc 22 l (B6 l);rw[e,HN.out]at this;simp at this;omega);clear hcell;have x1:AK wr b (o+i*22) 22=some x.cells:=(HR.out.below hbw).voteRow hx;have HXx:=AA hx;clear hx;go_upto_region 5 with(refine AJ rfl 46 (.tmp 11) (.tmp 23) rfl wr.heap.size x.cells rfl rfl 46 Bk.cells (Blk.new wr _ _) (by rfl) (by kernel_rfl) (fun u hu=>BM x hu) ?_;intro w4 hB4 hg4 hsz4)
   have HOwn4:Hid (w4.ownsRow w.heap.size 46 22 u9 D.length (D.flatMap vtc)):=BZ (HOwn.out.alloc _) hg4 (fun k hk=>by
    injection hk with hk
    subst hk;right;intro e;have:=(HOwn.out.lt _ e).2;omega)
   have hbw4:Below w.heap.size w w4:=(hbw.alloc hbw.size _).grown hg4 (AF hbw.size (by simp)) (fun k hk=>by injection hk with hk;subst hk;exact hbw.size);obtain⟨z,hz⟩:∃z,z=wr.heap.size:=⟨_,rfl⟩;rw[←hz]at hB4 ⊢;have x3:AK w4 z 0 22=some x.cells:=hB4.row 22 rfl;have x4:w4.cell? ⟨z,1,none⟩=some (.int .i64 x.slot):=hB4.cell 1;have x5:w4.cell? ⟨z,0,none⟩=some (.int .i64 x.kind):=hB4.cell 0;clear hB4 hg4 hsz4 x1 hz HOwn hbw;try go_frame
   by_cases h1:x.slot=(s:Int)
   ·have e1:(x.slot==(s:Int))=true:=by rw[h1];exact beq_self_eq_true _
    have HSl:=AA h1;clear h1;by_cases h2:x.kind≤4
    ·have e2:decide (x.kind≤4)=true:=by simpa using h2
     have HK:=AA h2;clear h2;go_wp2_with ((first
      |(refine BP rfl 56 46 (.tmp 34) rfl x.cells rfl Tryz.underlying56 (by kernel_rfl) (by decide) (by decide) ?_)
      |(at_builtin;refine Aq rfl (.tmp 33) (.tmp 35) _ rfl w.heap.size 46 (.agg Bk.cells) 22 64 Tryz.underlying56 CA rfl (by decide) u9 D.length (D.flatMap vtc) rfl ?r0 (w4.heap.size+1) (some ⟨w4.heap.size,0,none⟩) 1 1 (vtc x) rfl ?r1 ?r2 ?r3 ?r4 ?r5 ?r6 ?_)))
     case r0=>exact HOwn4.out.alloc _
     case r1=>rfl
     case r2=>exact Rd.mk (by omega) (fun j u hu=>by rw[Nat.zero_add,(Blk.new w4 _ _).cell];simpa using hu)
     case r3=>exact fun u hu=>BM x hu
     case r4=>omega
     case r5=>unfold maxLen;omega
     case r6=>have:=hbw4.size;simp;omega
     intro v7 w7 hown7 hg7 hat7;have hbw7:Below w.heap.size w w7:=BL (hbw4.alloc hbw4.size _) (HOwn4.out.alloc _) hg7;have HOwn7:=AA hown7;clear hown7 hg7 hat7 x3 x4 x5 HOwn4;go_wp2;go_roundw
     case rel=>
      refine⟨i+1,D++[x],by go_num,by rw[HN.out];omega,by rw[AI];simp;omega,?_,?_,hbw7⟩
      ·rw[Rb HXx.out HSl.out HK.out,←HDe.out]
      ·have h:=HOwn7.out;rw[AI,Ad];simpa using h
     case measure=>simp[intOf];omega
    ·have e2:decide (x.kind≤4)=false:=by simpa using h2
     have HK:=AA h2;clear h2;go_wp2;go_roundw
     case rel=>exact⟨i+1,D,by go_num,by rw[HN.out];omega,by omega,(by rw[QD HXx.out HK.out];exact HDe.out),HOwn4.out,hbw4⟩
     case measure=>simp[intOf];omega
   ·have e1:(x.slot==(s:Int))=false:=by simpa using h1
    have HSl:=AA h1;clear h1;go_wp2;go_roundw
    case rel=>exact⟨i+1,D,by go_num,by rw[HN.out];omega,by omega,(by rw[QE HXx.out HSl.out];exact HDe.out),HOwn4.out,hbw4⟩
    case measure=>simp[intOf];omega
  ·have di:decide ((i:Int)<(n:Int))=false:=by simp;omega
   have hDn:D.length≤n:=by omega
   obtain⟨m,hm⟩:∃m,m=wr.heap.size:=⟨_,rfl⟩;obtain⟨wm,hwm⟩:∃wm,wm=wr.alloc (.map #[] 0):=⟨_,rfl⟩;have hmp:Bh Oc.val wm m []:=by rw[hwm,hm];exact Bh.new Oc.val wr
   have hbm:Below w.heap.size w wm:=by rw[hwm];exact hbw.alloc hbw.size _
   have hownm:wm.ownsRow w.heap.size 46 22 u9 D.length (D.flatMap vtc):=by rw[hwm];exact HOwn.out.alloc _
   have hmm:m<wm.heap.size:=hmp.is.lt;obtain⟨A1,c1,hu9,hR1⟩:∃A1 c1,u9= .slice A1 D.length c1∧Rd wm wm.heap.size A1 (D.flatMap vtc):=by
    rcases hownm.2 with⟨rfl,h0⟩|⟨g,cap,cur,rfl,_⟩
    ·exact⟨none,0,by rw[h0],.inl (AV (by rw[hownm.1,h0,Nat.zero_mul]))⟩
    ·exact⟨_,cap,rfl,Rd.of_own hownm⟩
   subst hu9;have hDall:D=slF s l:=by
    have h:=HDe.out;rw[AT (by rw[HN.out];omega)]at h;exact h
   have hAcc:=I3 M p A1 D.length c1 D (s:Int) wm rfl hR1 hD6 (fun v hv=>⟨HL.out v (HD.out v hv).1,(HD.out v hv).2.1⟩) (by simpa using HS.out);have HDall:=AA hDall;have HAcc:=AA hAcc;have HWm:=AA hwm;have HM:=AA hm;have HMp:=AA hmp;have y1:AK wm q 0 8=some p.cells:=(HBq.out.below hbm hqw).row 8 rfl;obtain⟨nD,hnD⟩:∃nD,nD=D.length:=⟨_,rfl⟩;rw[←hnD]at HAcc hDn;have HND:=AA hnD;clear hAcc hmp hwm hm hownm hR1 HOwn hD6 hDi hDall;rw[←HND.out];clear hnD;go_upto_region 9 with fail
   simp only[←HWm.out,←HM.out];go_wp2_with fail
   refine HAcc.out.mono ?_;rintro en w3 ⟨v3,O,rfl,⟨hO,hOe⟩,hOn,hown3,hb3⟩;have HOe:Hid (SmO p l→O=Fl M (Lc p (slF s l))):=fun sm=>by rw[hOe ⟨fun v hv=>⟨(HD.out v hv).2.2,sm.1 v (HD.out v hv).1⟩,AF (Ms p s l D HDall.out) sm.2⟩,HDall.out]
   clear hOe;have HO:Hid (Py M p (s:Int) l O):=⟨hO.1,fun x hx=>⟨(HD.out x (hO.2 x hx).1).1,(hO.2 x hx).2⟩⟩;have HMp3:Hid (Bh Oc.val w3 m []):=HMp.out.below hb3 hmm;have hbw3:Below w.heap.size w w3:=hbm.trans (hb3.mono hbm.size);obtain⟨A3,c3,rfl,hR3⟩:∃A1 c1,v3= .slice A1 O.length c1∧(O.flatMap vtc=[]∨∃g,A1=some ⟨g,0,none⟩∧wm.heap.size≤g∧∃T,Blk w3 g 46 (O.flatMap vtc++T).toArray):=by
    rcases FD hown3 with⟨rfl,h0,h1⟩|⟨g,cap,T,rfl,h1,h2,_⟩
    ·exact⟨none,0,by rw[h0],.inl h1⟩
    ·exact⟨_,cap,rfl,.inr ⟨g,rfl,h1,T,h2⟩⟩
   obtain⟨nO,hnO⟩:∃nO,nO=O.length:=⟨_,rfl⟩;rw[←hnO]at hOn ⊢;have HNO:Hid (O.length=nO):=hnO.symm;have HR3:=AA hR3;clear hO hown3 hR3 hnO HAcc HMp y1;go_wp2
   go_loopw [44] (fun iv wr=>Tt M s O m w3 iv wr) (fun iv _=>nO-(intOf iv).toNat)
   case atStart=>exact⟨0,[],rfl,Nat.zero_le _,AB _,Cg.nil _ _ _,(fun x hx=>by simp at hx),HMp3.out,Ai w3 m⟩
   case round=>
    obtain⟨i2,kl,rfl,hin2,hkl,hmk,hcp,hmap,hgr⟩:=hrel;have HCp:=AA hcp;clear hcp;rw[HNO.out]at hin2;have HMk:=AA hmk;have HMap:=AA hmap;have HGr:=AA hgr;clear hmk hmap hgr;by_cases hi2:i2<nO
    ·have di2:decide ((i2:Int)<(nO:Int))=true:=by simp;omega
     obtain⟨x,hx⟩:∃x,O[i2]? =some x:=⟨_,AE (by rw[HNO.out];exact hi2)⟩;obtain⟨g,rfl,hgm,T,hT⟩:∃g,A3=some ⟨g,0,none⟩∧wm.heap.size≤g∧∃T,Blk w3 g 46 (O.flatMap vtc++T).toArray:=by
      rcases HR3.out with h|h
      ·have:=AX vtc 22 O (B6 O);rw[h,HNO.out]at this;simp at this;omega
      ·exact h
     have hTr:Blk wr g 46 (O.flatMap vtc++T).toArray:=hT.kept HGr.out (by intro e;injection e with e;omega);have x1:AK wr g (i2*22) 22=some x.cells:=Bx.vt (T:=T) (w0:=wr) ⟨hTr,Ai wr g⟩ hx;have hxO:x∈O:=AM hx;have HXi:=AA hx;have HXO:=AA hxO;have HXv:=AA (HO.out.2 x hxO);have hmw:m<wr.heap.size:=HMap.out.is.lt;clear hx hTr hT hxO;go_upto_region 12 with(refine AJ rfl 46 (.tmp 14) (.tmp 47) rfl wr.heap.size x.cells rfl rfl 46 Bk.cells (Blk.new wr _ _) (by rfl) (by kernel_rfl) (fun u hu=>BM x hu) ?_;intro w4 hB4 hg4 hsz4)
     have HGr4:Hid (w3.grownBy w4 (some m)):=(Bl HGr.out _).andThen hg4 (fun k hk=>by injection hk with hk;subst hk;exact .inl HGr.out.size);have HMap4:Hid (Bh Oc.val w4 m kl):=(HMap.out.alloc _).kept hg4 (by intro e;injection e with e;omega);obtain⟨z,hz⟩:∃z,z=wr.heap.size:=⟨_,rfl⟩;rw[←hz]at hB4 ⊢;have hzm:z≠m:=by omega
     have hmw4:m<w4.heap.size:=HMap4.out.is.lt;have x4:w4.cell? ⟨z,0,none⟩=some (.int .i64 x.kind):=hB4.cell 0;have x5:w4.cell? ⟨z,3,none⟩=some (.int .i64 x.choice):=hB4.cell 3;have HB4:=AA hB4;clear hg4 hsz4 x1 hz HMap HGr hmw hB4;try go_frame
     by_cases h1:x.kind=4
     ·have e1:(x.kind==4)=true:=by rw[h1];rfl
      have HK:=AA h1;clear h1;by_cases h2:x.choice=2
      ·have e2:(x.choice !=2)=false:=by rw[h2];rfl
       have HCC:=AA h2;clear h2;go_wp2;go_roundw
       case rel=>exact⟨i2+1,kl,by go_num,by rw[HNO.out];omega,by omega,HMk.out,(DW.skip HCp.out HXi.out (.inr HCC.out)),HMap4.out,HGr4.out⟩
       case measure=>simp[intOf];omega
      ·have e2:(x.choice !=2)=true:=by simpa using h2
       have HC:=AA h2;clear h2;obtain⟨sn,hsn9,hsn⟩:∃sn:Nat,sn≤9∧x.signer=(sn:Int):=by
        obtain⟨hv,_⟩:=HXv.out.2.1;have h9:=hv.2.1;exact⟨x.signer.toNat,by omega,by omega⟩
       obtain⟨k,hk⟩:∃k:Oc,k=⟨(s:Int),x.round,x.choice,x.value⟩:=⟨_,rfl⟩;have HKk:=AA hk;have HMb:Hid ((xOf M).testBit sn=true):=by
        have h:=HXv.out.2.2.2;rw[hsn]at h;unfold Hid;simpa using h
       have HSn:=AA hsn;have HCells:Hid (∀V,Blk V z 46 x.cells→V.cell? ⟨z,2,none⟩=some (.int .i64 x.round)∧V.cell? ⟨z,3,none⟩=some (.int .i64 x.choice)∧AK V z 14 8=some x.value.cells∧V.cell? ⟨z,4,none⟩=some (.int .i64 (sn:Int))):=fun V hV=>⟨hV.cell 2,hV.cell 3,x.row_value hV,by rw[←hsn];exact hV.cell 4⟩
       clear hk hsn;go_wp2_with fail
       refine rgD (fun V=>V.cell? ⟨z,2,none⟩=some (.int .i64 x.round)∧V.cell? ⟨z,3,none⟩=some (.int .i64 x.choice)∧AK V z 14 8=some x.value.cells∧V.cell? ⟨z,4,none⟩=some (.int .i64 (sn:Int))) (HCells.out _ HB4.out.drew) fun hHeld=>?_
       refine tkD 56 0 ?_;go_frame;refine tkD 57 1 ?_;go_frame;refine tkD 58 2 ?_;go_frame;refine tkD 59 3 ?_;go_frame;refine tkD 60 4 ?_;go_frame;refine tkD 61 5 ?_;go_frame;refine tkD 62 6 ?_;go_frame;refine tkD 63 7 ?_;go_frame;refine Az (some 64) (i:=8) (v:=(Oc.mk (s:Int) x.round x.choice x.value).val) rfl rfl (by kernel_rfl) (by kernel_rfl) (by kernel_rfl) (fun _ _ _ h=>h) (by rfl) (fun wq _=>LZ (s:Int) x.round x.choice x.value (.tmp 57) (.tmp 59) (.tmp 61) (.tmp 63) rfl rfl rfl rfl rfl wq) (by assumption) ?_;go_frame;refine tkD 66 10 ?_;go_frame;refine tkD 67 11 ?_;go_frame;refine Az (some 68) (i:=12) (v:=(.int .i64 ((2^sn:Nat):Int))) rfl rfl (by kernel_rfl) (by kernel_rfl) (by kernel_rfl) (fun _ _ _ h=>h) (by rfl) (fun wq _=>GW (.tmp 67) sn rfl rfl hsn9 wq) (by assumption) ?_;go_frame;refine wpAnyH_ready (rs:=[9,14]) (by kernel_rfl) (by simp) ?_;refine AllReadyH.cons rfl (fun K hK=>?_) (AllReadyH.cons rfl (fun K hK=>?_) AllReadyH.nil)
       ·obtain⟨S,hS1,hS2⟩:=HMk.out.look k;have HS1:=AA hS1;have HS2:=AA hS2;have hS10:S<1024:=hS2.1;clear hS1 hS2;rw[if_pos (by rfl)];refine B5 (.int .i64 (S:Int)) ((J3 (.tmp 56) (.tmp 64) rfl m k rfl (by rw[HKk.out];rfl) (w:=w4.drew) (HMap4.out.below (AC w4.heap.size w4).drew hmw4)).trans (by rw[HS1.out])) ?_;refine hK.out _ _ (HCells.out _ HB4.out.drew) (fun hHeld=>?_);clear hK K;try go_frame
        refine Az (some 69) (i:=13) (v:=(.int .i64 ((S|||2^sn:Nat):Int))) rfl rfl (by kernel_rfl) (by kernel_rfl) (by kernel_rfl) (fun _ _ _ h=>h) (by rfl) (fun wq _=>GX (.tmp 65) (.tmp 68) S sn rfl rfl rfl hS10 hsn9 wq) (by assumption) ?_;go_frame;refine rd1 14 fun K hK=>?_
        rw[if_pos (by rfl)];refine Na (.tmp 56) (.tmp 64) rfl m k rfl (by rw[HKk.out];rfl) (w:=w4.drew) (HMap4.out.below (AC w4.heap.size w4).drew hmw4) ?_;intro w5 b5 v5 kl5 hE5 hA5 hU5 hl5 hg5 hs5;have HA5:=AA hA5;clear hA5;have HB5:Hid (Blk w5 z 46 x.cells):=(HB4.out.drew).kept hg5 (by intro e;injection e with e;exact hzm e);have HE5:=AA hE5;have HMk5:Hid (Cg M (s:Int) O kl5):=Cg.upd (S:=0) HMk.out hU5 (by rw[HKk.out]) (by rw[HKk.out];exact HC.out) (DA.zero M O k);clear hE5 hU5;refine hK.out _ _ (HCells.out _ HB5.out) (fun hHeld=>?_);clear hK K;try go_frame
        refine tkD 71 15 ?_;go_frame;refine rd1 16 fun K hK=>?_
        rw[if_pos (by rfl)];refine Nb (.tmp 56) (.tmp 71) (.tmp 69) rfl m b5 k (.int .i64 ((S|||2^sn:Nat):Int)) rfl rfl rfl (w:=w5) HE5.out ?_;intro w6 kl6 hK6 hM6 hU6 hl6 hg6 hs6;have HK6:=AA hK6;clear hK6;have HB6:Hid (Blk w6 z 46 x.cells):=HB5.out.kept hg6 (by intro e;injection e with e;exact hzm e);have HM6:=AA hM6;clear hM6;refine hK.out _ _ (HCells.out _ HB6.out) (fun hHeld=>?_);clear hK K;try go_frame
        refine dnD ?_;have hgr6:w3.grownBy w6 (some m):=((BX HGr4.out).trans hg5).trans hg6;have HMk6:Hid (Cg M (s:Int) O kl6):=HMk5.out.upd hU6 (by rw[HKk.out]) (by rw[HKk.out];exact HC.out) (HS2.out.or hsn9 HMb.out ⟨x,HXO.out,HSn.out,HK.out,by rw[HKk.out],by rw[HKk.out],by rw[HKk.out]⟩);have hlen6:kl6.length≤i2+1:=by omega
        have HCp6:Hid (DW s (O.take (i2+1)) kl6):=DW.step HKk.out HCp.out HXi.out HSn.out HK6.out HA5.out HS1.out;clear hU6;go_wp2_with fail
        go_roundw
        case rel=>exact⟨i2+1,kl6,by go_num,by rw[HNO.out];omega,hlen6,HMk6.out,HCp6.out,HM6.out,hgr6⟩
        case measure=>simp[intOf];omega
       ·rw[if_pos (by rfl)];refine Na (.tmp 56) (.tmp 64) rfl m k rfl (by rw[HKk.out];rfl) (w:=w4.drew) (HMap4.out.below (AC w4.heap.size w4).drew hmw4) ?_;intro w5 b5 v5 kl5 hE5 hA5 hU5 hl5 hg5 hs5;have HA5:=AA hA5;clear hA5;have HB5:Hid (Blk w5 z 46 x.cells):=(HB4.out.drew).kept hg5 (by intro e;injection e with e;exact hzm e);have HE5:=AA hE5;have HMk5:Hid (Cg M (s:Int) O kl5):=Cg.upd (S:=0) HMk.out hU5 (by rw[HKk.out]) (by rw[HKk.out];exact HC.out) (DA.zero M O k);clear hE5 hU5;refine hK.out _ _ (HCells.out _ HB5.out) (fun hHeld=>?_);clear hK K;try go_frame
        obtain⟨S,hS1,hS2⟩:=HMk5.out.look k;have HS1:=AA hS1;have HS2:=AA hS2;have hS10:S<1024:=hS2.1;clear hS1 hS2;refine tkD 71 15 ?_;go_frame;refine rd1 9 fun K hK=>?_
        rw[if_pos (by rfl)];refine B5 (.int .i64 (S:Int)) ((J3 (.tmp 56) (.tmp 64) rfl m k rfl (by rw[HKk.out];rfl) (w:=w5) HE5.out.isB).trans (by rw[HS1.out])) ?_;refine hK.out _ _ (HCells.out _ HB5.out) (fun hHeld=>?_);clear hK K;try go_frame
        refine Az (some 69) (i:=13) (v:=(.int .i64 ((S|||2^sn:Nat):Int))) rfl rfl (by kernel_rfl) (by kernel_rfl) (by kernel_rfl) (fun _ _ _ h=>h) (by rfl) (fun wq _=>GX (.tmp 65) (.tmp 68) S sn rfl rfl rfl hS10 hsn9 wq) (by assumption) ?_;go_frame;refine rd1 16 fun K hK=>?_
        rw[if_pos (by rfl)];refine Nb (.tmp 56) (.tmp 71) (.tmp 69) rfl m b5 k (.int .i64 ((S|||2^sn:Nat):Int)) rfl rfl rfl (w:=w5) HE5.out ?_;intro w6 kl6 hK6 hM6 hU6 hl6 hg6 hs6;have HK6:=AA hK6;clear hK6;have HB6:Hid (Blk w6 z 46 x.cells):=HB5.out.kept hg6 (by intro e;injection e with e;exact hzm e);have HM6:=AA hM6;clear hM6;refine hK.out _ _ (HCells.out _ HB6.out) (fun hHeld=>?_);clear hK K;try go_frame
        refine dnD ?_;have hgr6:w3.grownBy w6 (some m):=((BX HGr4.out).trans hg5).trans hg6;have HMk6:Hid (Cg M (s:Int) O kl6):=HMk5.out.upd hU6 (by rw[HKk.out]) (by rw[HKk.out];exact HC.out) (HS2.out.or hsn9 HMb.out ⟨x,HXO.out,HSn.out,HK.out,by rw[HKk.out],by rw[HKk.out],by rw[HKk.out]⟩);have hlen6:kl6.length≤i2+1:=by omega
        have HCp6:Hid (DW s (O.take (i2+1)) kl6):=DW.step HKk.out HCp.out HXi.out HSn.out HK6.out HA5.out (by have h:=HS1.out;rw[HA5.out k,if_pos rfl,Option.getD_some]at h;exact h);clear hU6;go_wp2_with fail
        go_roundw
        case rel=>exact⟨i2+1,kl6,by go_num,by rw[HNO.out];omega,hlen6,HMk6.out,HCp6.out,HM6.out,hgr6⟩
        case measure=>simp[intOf];omega
     ·have e1:(x.kind==4)=false:=by simpa using h1
      have HKK:=AA h1;clear h1;go_wp2;go_roundw
      case rel=>exact⟨i2+1,kl,by go_num,by rw[HNO.out];omega,by omega,HMk.out,(DW.skip HCp.out HXi.out (.inl HKK.out)),HMap4.out,HGr4.out⟩
      case measure=>simp[intOf];omega
    ·have di2:decide ((i2:Int)<(nO:Int))=false:=by simp;omega
     obtain⟨wb,hwb⟩:∃wb,wb=wr:=⟨_,rfl⟩;subst hwb;have hkl6:kl.length≤n:=by omega
     have HCpA:Hid (DW s O kl):=by
      have h:=HCp.out;rw[AT (by rw[HNO.out];omega)]at h;exact h
     clear HCp;have hbw5:Below w.heap.size w wb:=hbw3.grown HGr.out hbw3.size (fun k hk=>by injection hk with hk;subst hk;rw[HM.out];exact hbw.size);obtain⟨pb,hpb⟩:∃pb,pb=wb.heap.size:=⟨_,rfl⟩;obtain⟨w5,hw5⟩:∃w5,w5=wb.alloc (.cells #[.slice none 0 0] 103):=⟨_,rfl⟩;have hBp:Blk w5 pb 103 #[.slice none 0 0]:=by rw[hw5,hpb];exact Blk.new wb _ _
     have hmp5:Bh Oc.val w5 m kl:=by rw[hw5];exact HMap.out.alloc _
     have hbw5':Below wb.heap.size wb w5:=by rw[hw5];exact(AC _ _).alloc (AB _) _
     have hmw:m<wb.heap.size:=HMap.out.is.lt;have HW5:=AA hw5;have HPb:=AA hpb;have hpw:wb.heap.size≤pb:=by omega
     clear hw5 hpb HR3 HMp3;go_upto_region 16 with fail
     simp only[←HW5.out,←HPb.out];obtain⟨r,hr⟩:∃r,r=w5.heap.size:=⟨_,rfl⟩;go_wp2_with (at_range;refine C8 _ rfl _ 178 rfl _ _ Tryz.underlying178 m kl rfl hmp5 (GY M []) ?_;intro o6 MO hrg6)
     have hBp6:Blk (w5.alloc o6) pb 103 #[.slice none 0 0]:=hBp.alloc _;have hbw6:Below wb.heap.size wb (w5.alloc o6):=hbw5'.alloc hbw5'.size _;rw[←hr]at hrg6 ⊢;have hrw:wb.heap.size≤r:=by rw[hr];exact hbw5'.size
     have hrp:r≠pb:=by have:=hBp.lt;omega
     have hmr:m≠r:=by omega
     have hmpb:m≠pb:=by omega
     generalize w5.alloc o6=w6 at*;have HRg6:=AA hrg6;have HBp6:=AA hBp6;clear hrg6 hBp6 hr hBp hmp5 hbw5' HW5;go_frame
     go_loopw [17] (fun _ wx=>Tu M s O m r pb kl wb wx) (fun _ wx=>Iu m r wx)
     case atStart=>exact⟨MO,_,[],HRg6.out,HBp6.out,by have:=HRg6.out.rng.le;simpa using this,fun o ho=>(List.not_mem_nil ho).elim,⟨by simp,.inl ⟨rfl,rfl⟩⟩,hbw6⟩
     case round=>
      obtain⟨cnt,v,L,hrg,hBp,hLc,hL,hown,hbx⟩:=hrel;have HRg:=AA hrg;have HBp:=AA hBp;have HL3:=AA hL;have HOwn:=AA hown;have y1:wr.cell? ⟨pb,0,none⟩=some v:=hBp.cell 0;have hL6:L.length≤1000000:=by omega
      have hrx:r<wr.heap.size:=hrg.rng.lt;have hpx:pb<wr.heap.size:=hBp.lt;have hmx:m<wr.heap.size:=hrg.rng.mlt;clear hrg hBp hL hown HRg6 HBp6;go_wp2_with (at_next;refine DL _ rfl _ rfl m r cnt kl _ rfl HRg.out ?_ ?_)
      ·intro hvis;have HVis:=AA hvis;clear hvis;have HSort:=AA (HMid.out wb wr pb v L HOwn.out hbx HBp.out hL6);clear HMid;go_wp2_with fail
       refine HSort.out.mono ?_;rintro en w8 ⟨rfl,hB8,hb8,l8,hp8,hown8⟩;have z1:w8.cell? ⟨pb,0,none⟩=some v:=hB8.cell 0;have HP8:=AA hp8;have HOwn8:=AA hown8;have hll:L.length≤l.length:=by rw[HN.out];omega
       clear hB8 hp8 hown8 HSort y1;go_wp2;go_ret;have hbb:Below w0.heap.size w0 wb:=hb0.trans (hbw5.mono hb0.size);exact⟨v,l8,rfl,⟨O,HO.out,(fun o ho=>HL3.out o (HP8.out.mem_iff.1 ho)),fun sm=>⟨HOe.out sm,(fun x hx h4 h2=>(DW.fin HCpA.out (fun pp hpp=>HVis.out pp.1 pp.2 hpp) x hx h4 h2).imp (fun h=>HP8.out.mem_iff.2 h) id)⟩⟩,by rw[HP8.out.length_eq];exact hll,BF HOwn8.out hbb.size,hbb.trans (hb8.mono hbb.size)⟩
      ·intro k v1 w1 Eg hmem hrg1 hlt1 hg1 hs1 hen;obtain⟨j1,j2,S,hv1,j3⟩:=HMk.out (k,v1) hmem;clear j1 j2 j3;simp only at hv1;subst hv1;have HMem:=AA hmem;have hb1:Below wb.heap.size wb w1:=hbx.grown hg1 hbx.size (fun j hj=>by injection hj with hj;subst hj;exact hrw);have HBp1:Hid (Blk w1 pb 103 #[v]):=HBp.out.kept hg1 (by intro e;injection e with e;exact hrp e.symm);have hnr:v.ownBlock≠some r:=fun e=>(HRg.out.rng.ne_row HOwn.out).2 e.symm
       have HOwn1E:Hid (w1.ownsRow wb.heap.size 142 11 v L.length (L.flatMap occ)):=BZ HOwn.out hg1 (fun j hj=>by injection hj with hj;subst hj;exact .inr hnr);have HRg1:=AA hrg1;have hr1:r<w1.heap.size:=hrg1.rng.lt;have hm1:m<w1.heap.size:=hrg1.rng.mlt;have hp1:pb<w1.heap.size:=HBp1.out.lt;clear hmem hrg1 hg1 y1 hnr;clear hs1;go_upto_region 19 with fail
       obtain⟨w4,hw4⟩:∃w4,w4=w1.alloc (.cells k.cells 142):=⟨_,rfl⟩;rw[←hw4];have HRg4:Hid (Co Oc.val w4 m r kl Eg (fun p=>GY M L p∨p=(k,.int .i64 (S:Int)))):=by unfold Hid;rw[hw4];exact HRg1.out.alloc _
       have HBp4:Hid (Blk w4 pb 103 #[v]):=by unfold Hid;rw[hw4];exact HBp1.out.alloc _
       have HOwn4:Hid (w4.ownsRow wb.heap.size 142 11 v L.length (L.flatMap occ)):=by unfold Hid;rw[hw4];exact HOwn1E.out.alloc _
       have hb4:Below wb.heap.size wb w4:=by rw[hw4];exact hb1.alloc hb1.size _
       have hB4:Blk w4 w1.heap.size 142 k.cells:=by rw[hw4];exact Blk.new w1 _ _
       clear hw4;obtain⟨z,hz⟩:∃z,z=w1.heap.size:=⟨_,rfl⟩;rw[←hz]at hB4 ⊢;have x3:AK w4 z 0 11=some k.cells:=hB4.row 11 rfl;have y4:w4.cell? ⟨pb,0,none⟩=some v:=HBp4.out.cell 0;clear hB4 hz hen HBp1 HOwn1E hb1;obtain⟨a,ha⟩:∃a,a=At (xOf (S:Int)) 10:=⟨_,rfl⟩;have HSzS:Hid (∀W,Calls Tryz.prog 15 #[.int .i64 (S:Int)] W fun e w'=>e= .returned (.int .i64 (a:Int))∧w'=W):=fun W=>by rw[ha];exact HSz.out _ W
       have HA:=AA ha;obtain⟨qn,hqn⟩:∃qn,qn=B9 nq:=⟨_,rfl⟩;have HQn:=AA hqn;have HQu':Hid (∀W,Calls Tryz.prog 115 #[.int .i64 (nq:Int)] W fun e w'=>e= .returned (.int .i64 (qn:Int))∧w'=W):=fun W=>by rw[hqn];exact HQu.out W
       clear ha hqn;try go_frame
       by_cases hq:qn≤a
       ·have dq:decide ((qn:Int)≤(a:Int))=true:=by simp;omega
        go_wp2_with fail
        refine(HSzS.out _).mono ?_;rintro en w5' ⟨rfl,hw5'⟩;replace hw5':=hw5'.symm;subst hw5';go_wp2_with fail
        refine(HSzM.out _).mono ?_;rintro en w5' ⟨rfl,hw5'⟩;replace hw5':=hw5'.symm;subst hw5';go_wp2_with fail
        refine(HQu'.out _).mono ?_;rintro en w5' ⟨rfl,hw5'⟩;replace hw5':=hw5'.symm;subst hw5';have hq':B9 (At (xOf M) 10)≤At (xOf (S:Int)) 10:=by rw[←HNq.out,←HQn.out,←HA.out];exact hq
        have HOk:=AA (HMk.out.out HMem.out hq');clear hq';go_wp2_with ((first
         |(refine BP rfl 103 142 (.tmp 87) rfl k.cells rfl Tryz.underlying103 (by kernel_rfl) (by decide) (by decide) ?_)
         |(at_builtin;refine Aq rfl (.tmp 86) (.tmp 88) _ rfl wb.heap.size 142 (.agg Oc.zero.cells) 11 32 Tryz.underlying103 NQ rfl (by decide) v L.length (L.flatMap occ) rfl ?r0 (w4.heap.size+1) (some ⟨w4.heap.size,0,none⟩) 1 1 (occ k) rfl ?r1 ?r2 ?r3 ?r4 ?r5 ?r6 ?_)))
        case r0=>exact HOwn4.out.alloc _
        case r1=>rfl
        case r2=>exact Rd.mk (by omega) (fun j u hu=>by rw[Nat.zero_add,(Blk.new w4 _ _).cell];simpa using hu)
        case r3=>exact fun u hu=>KL k hu
        case r4=>omega
        case r5=>unfold maxLen;omega
        case r6=>have:=hb4.size;simp;omega
        intro v7 w7 hown7 hg7 hat7;have hne7:some pb≠v.ownBlock:=CC HOwn4.out HBp4.out (by decide);have hnn:=HRg4.out.rng.ne_row HOwn4.out;have HBp7:Hid (Blk w7 pb 103 #[v]):=(HBp4.out.alloc _).kept hg7 hne7;have HRg7:Hid (Co Oc.val w7 m r kl Eg (fun p=>GY M L p∨p=(k,.int .i64 (S:Int)))):=(HRg4.out.alloc _).kept hg7 hnn.1 hnn.2;have hb7:Below wb.heap.size wb w7:=BL (hb4.alloc hb4.size _) (HOwn4.out.alloc _) hg7;have hne8:some pb≠v7.ownBlock:=CC hown7 HBp7.out (by decide);obtain⟨g7,cap7,rfl⟩:=ownsRow_succ hown7;have HOwn7:=AA hown7;have HNe:=AA hne8;have y6:w7.cell? ⟨pb,0,none⟩=some v:=HBp7.out.cell 0;have y7:w7.frozen? ⟨pb,0,none⟩=false:=HBp7.out.frozen 0;clear hown7 hg7 hat7 hne7 hnn hne8 y4 x3;go_wp2;try go_frame
        have HRg8:Hid (Co Oc.val (w7.setCell ⟨pb,0,none⟩ (.slice (some ⟨g7,0,none⟩) (L.length+1) cap7)) m r kl Eg (GY M (L++[k]))):=(HRg7.out.kept (Bi (p:=⟨pb,0,none⟩) (Ai w7 pb) rfl _) (by intro e;injection e with e;exact hmpb e) (by intro e;injection e with e;exact hrp e)).mono (fun p hp=>GY.snoc hp);go_roundw
        case rel=>
         refine⟨Eg,_,L++[k],HRg8.out,HBp7.out.put 0 _,by rw[AI];simp;omega,?_,?_,hb7.setCell hpw _⟩
         ·intro t ht;rcases AP.1 ht with ht|ht
          ·exact HL3.out t ht
          ·rw[AR.1 ht];exact HOk.out
         ·have h:=BZ HOwn7.out (Bi (p:=⟨pb,0,none⟩) (Ai w7 pb) rfl (.slice (some ⟨g7,0,none⟩) (L.length+1) cap7)) (fun j hj=>by injection hj with hj;subst hj;exact .inr (fun e=>HNe.out e.symm));rw[AI,Ad];simpa using h
        case measure=>rw[HRg8.out.rng.left_eq,HRg.out.rng.left_eq];exact hlt1
       ·have dq:decide ((qn:Int)≤(a:Int))=false:=by simp;omega
        go_wp2_with fail
        refine(HSzS.out _).mono ?_;rintro en w5' ⟨rfl,hw5'⟩;replace hw5':=hw5'.symm;subst hw5';go_wp2_with fail
        refine(HSzM.out _).mono ?_;rintro en w5' ⟨rfl,hw5'⟩;replace hw5':=hw5'.symm;subst hw5';go_wp2_with fail
        refine(HQu'.out _).mono ?_;rintro en w5' ⟨rfl,hw5'⟩;replace hw5':=hw5'.symm;subst hw5';go_wp2;go_roundw
        case rel=>exact⟨Eg,v,L,HRg4.out.mono (fun p hp=>GY.fail (by rw[←HNq.out,←HQn.out,←HA.out];omega) hp),HBp4.out,by omega,HL3.out,HOwn4.out,hb4⟩
        case measure=>rw[HRg4.out.rng.left_eq,HRg.out.rng.left_eq];exact hlt1
end
end Go.Proofs.YtadllffeoibelaaGreat
