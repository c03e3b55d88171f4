/-
  What these parts of the proof come to, functions walked and plain laws: BrG, Pd9, Nm1. No condition.
-/
import Derived.Test.YtadllffeoibelaaGreatS34
import Derived.Test.YtadllffeoibelaaGreatS12
import Derived.Test.YtadllffeoibelaaGreatS9
import Derived.Test.YtadllffeoibelaaGreatS19
import Derived.Test.YtadllffeoibelaaGreatS28
import Derived.Test.YtadllffeoibelaaGreatS5
namespace Go.Proofs.YtadllffeoibelaaGreat
section
open Go.RowKit Go.Shelf
attribute [local go_sem ↓] Go.wp_at_zero Go.wp_at_succ loadNm loadVt loadSg loadEv
attribute [local go_sem] runNm runVt runSg runEv pickRow_some rowAt_drew rowAt_drewN
def pK (kd : Int) (k : Nm) (v : Vt) : Bool:=decide (v.kind = kd) && decide (v.value = k)
def BrB (kd : Int) (O : List Vt) (kl : List (Nm × Value)) : Prop :=
 (∀ k,(alook k kl).getD (.int .i64 0) = .int .i64 ((sgsF (pK kd k) O : Nat) : Int)) ∧
 (∀ q ∈ kl,∃ S : Nat,q.2 = .int .i64 (S : Int)∧S < 1024∧∀ i,S.testBit i = true→(sgsF (pK kd q.1) O).testBit i = true)∧kl.length≤O.length
theorem BrB.nil (kd : Int) : BrB kd [] []:=⟨fun k => rfl,fun q h => (by cases h),Nat.le_refl _⟩
theorem take_next {α : Type} {l : List α} {i : Nat} {x : α} (hx : l[i]? = some x) : l.take (i + 1) = l.take i ++ [x]:=by
 rw [List.take_add_one,hx,Option.toList_some]
theorem sgs_le (pr : Vt→Bool) (l : List Vt) (x : Vt) (i : Nat) (h : (sgsF pr l).testBit i = true) : (sgsF pr (l ++ [x])).testBit i = true:=by
 obtain ⟨v,hv,h1,h2⟩:=sgsF_bit.1 h
 exact sgsF_bit.2 ⟨v,List.mem_append_left _ hv,h1,h2⟩
theorem BrB.skip {kd : Int} {O : List Vt} {i : Nat} {x : Vt} {kl : List (Nm × Value)} (h : BrB kd (O.take i) kl) (hx : O[i]? = some x) (hn : ¬ x.kind = kd) : BrB kd (O.take (i + 1)) kl:=by
 rw [take_next hx]
 have e : ∀ k,sgsF (pK kd k) (O.take i ++ [x]) = sgsF (pK kd k) (O.take i):=fun k => by
  rw [sgsF_snoc,if_neg (by simp [pK,hn])]
 refine ⟨fun k => by rw [e]; exact h.1 k,fun q hq => by rw [e]; exact h.2.1 q hq,?_⟩
 have:=h.2.2
 rw [List.length_append]
 omega
theorem BrB.step {kd : Int} {O : List Vt} {i : Nat} {x : Vt} {kl kl5 kl6 : List (Nm × Value)} {S sn : Nat} {k : Nm} (hkk : k = x.value) (h : BrB kd (O.take i) kl) (hx : O[i]? = some x) (hsn : x.signer = (sn : Int)) (hs9 : sn≤9) (hK : x.kind = kd)
  (hS : S = sgsF (pK kd k) (O.take i)) (hS10 : S < 1024) (h6 : kl6 = aput k (.int .i64 ((S ||| 2 ^ sn : Nat) : Int)) kl5) (h5 : ∀ k',alook k' kl5 = if k' = k then some ((alook k kl).getD (.int .i64 0)) else alook k' kl)
  (hU5 : Upd k (.int .i64 0) kl kl5) (hU6 : Upd k (.int .i64 ((S ||| 2 ^ sn : Nat) : Int)) kl5 kl6) (hl5 : kl5.length≤kl.length + 1) (hl6 : kl6.length = kl5.length) : BrB kd (O.take (i + 1)) kl6:=by
 have e : sgsF (pK kd k) (O.take i ++ [x]) = S ||| 2 ^ sn:=by
  rw [sgsF_snoc,if_pos (by simp [pK,hK,hkk]),← hS,hsn]; rfl
 have e' : ∀ k',¬ k' = k→sgsF (pK kd k') (O.take i ++ [x]) = sgsF (pK kd k') (O.take i):=fun k' hk' => by
  rw [sgsF_snoc,if_neg (by simp [pK,hK,← hkk]; exact fun h => hk' h.symm)]
 rw [take_next hx]
 refine ⟨fun k' => ?_,fun q hq => ?_,?_⟩
 ·rw [h6,alook_aput]
  by_cases hk' : k' = k
  ·rw [if_pos hk',hk',e]; rfl
  ·rw [if_neg hk',h5,if_neg hk',e' k' hk']
   exact h.1 k'
 ·rcases hU6 q hq with hq | rfl
  ·rcases hU5 q hq with hq | rfl
   ·obtain ⟨S',h1,h2,h3⟩:=h.2.1 q hq
    exact ⟨S',h1,h2,fun i hi => sgs_le _ _ _ _ (h3 i hi)⟩
   ·exact ⟨0,rfl,by decide,fun i hi => by simp at hi⟩
  ·refine ⟨_,rfl,or_lt10 S sn hS10 hs9,fun i hi => ?_⟩
   rw [e]
   exact hi
 ·have:=h.2.2
  rw [hl6,List.length_append,List.length_singleton]
  omega
def SgsPost (M : Int) (p : Nm) (s : Nat) (kd : Int) (l : List Vt) (w : World) (e : Ending) (w' : World) : Prop :=
 ∃ (m : Nat) (O : List Vt) (kl : List (Nm × Value)),e = .returned (.map (some m))∧AccG M p (s : Int) (slB s l) O∧O.length≤l.length∧BrB kd O kl∧MapB Nm.val w' m kl∧w.heap.size≤m∧Below w.heap.size w w'
def SgsRel (kd : Int) (O : List Vt) (m : Nat) (w : World) (iv : Value) (wr : World) : Prop :=
 ∃ (i : Nat) (kl : List (Nm × Value)),iv = .int .i64 (i : Int)∧i≤O.length∧BrB kd (O.take i) kl∧MapB Nm.val wr m kl∧w.grownBy wr (some m)
set_option maxRecDepth 100000 in
set_option maxHeartbeats 8000000 in
theorem signers_any (M : Int) (p : Nm) (A : Option Addr) (n c : Nat) (l : List Vt) (s : Nat) (kd : Int) (w0 : World) (hn : l.length = n) (hr : Rd w0 w0.heap.size A (l.flatMap vtc)) (hsm : n≤1000000) (hl : ∀ v ∈ l,ValidP v) (hs : (xOf M).testBit s = true) :
  Calls Tryz.prog 250 #[.int .i64 M,p.val,.slice A n c,.int .i64 (s : Int),.int .i64 kd] w0 (SgsPost M p s kd l w0):=by
 obtain ⟨w,hw⟩ : ∃ wa,wa = w0.alloc (.cells p.cells 24):=⟨_,rfl⟩
 have hb0 : Below w0.heap.size w0 w:=by rw [hw]; exact (Below.refl _ _).alloc (Nat.le_refl _) _
 have hBq : Blk w w0.heap.size 24 p.cells:=by rw [hw]; exact Blk.new w0 _ _
 obtain ⟨q,hq⟩ : ∃ q,q = w0.heap.size:=⟨_,rfl⟩
 obtain ⟨m,hm⟩ : ∃ m,m = w.heap.size:=⟨_,rfl⟩
 obtain ⟨wm,hwm⟩ : ∃ wm,wm = w.alloc (.map #[] 0):=⟨_,rfl⟩
 have hmp : MapB Nm.val wm m []:=by rw [hwm,hm]; exact MapB.new Nm.val w
 have hbm : Below w.heap.size w wm:=by rw [hwm]; exact (Below.refl _ _).alloc (Nat.le_refl _) _
 have hb0m : Below w0.heap.size w0 wm:=hb0.trans (hbm.mono hb0.size)
 have hmm : m < wm.heap.size:=hmp.is.lt
 have hm0 : w0.heap.size≤m:=by rw [hm]; exact hb0.size
 rw [← hq] at hBq
 have hqw : q < w.heap.size:=hBq.lt
 have y1 : rowAt wm q 0 8 = some p.cells:=(hBq.below hbm hqw).row 8 rfl
 have HSl:=Lib.hid (slots_any M p A n c l s wm hn ((hr.below hb0m).more hb0m.size) hsm hl hs)
 have HN:=Lib.hid hn
 have HL:=Lib.hid hl
 have HW:=Lib.hid hw
 have HWm:=Lib.hid hwm
 have HQ:=Lib.hid hq
 have HM:=Lib.hid hm
 have HMp:=Lib.hid hmp
 have HM0:=Lib.hid hm0
 have hmk : ∀ W : World,(Instr.makeMap 288 none).run Tryz.prog W = .ok (.map (some W.heap.size)) (W.alloc (.map #[] 0)):=fun W => rfl
 clear hn hr hl hs hw hBq hq hwm hm hmp hqw hm0
 go_enter Tryz.func250,Tryz.ntmps250
 go_upto_region 1 with fail
 simp only [← HW.out,← HQ.out]
 go_upto_region 2 with fail
 simp only [← HWm.out,← HM.out]
 go_wp2_with fail
 refine HSl.out.mono ?_
 rintro en w3 ⟨v3,O,rfl,hO,hOn,hown3,hb3⟩
 have HO:=Lib.hid hO
 have HMp3 : Hid (MapB Nm.val w3 m []):=HMp.out.below hb3 hmm
 obtain ⟨A3,c3,rfl,hR3⟩ : ∃ A1 c1,v3 = .slice A1 O.length c1∧(O.flatMap vtc = []∨∃ g,A1 = some ⟨g,0,none⟩∧wm.heap.size≤g∧∃ T,Blk w3 g 46 (O.flatMap vtc ++ T).toArray):=by
  rcases own_tail hown3 with ⟨rfl,h0,h1⟩ | ⟨g,cap,T,rfl,h1,h2,_⟩
  ·exact ⟨none,0,by rw [h0],.inl h1⟩
  ·exact ⟨_,cap,rfl,.inr ⟨g,rfl,h1,T,h2⟩⟩
 obtain ⟨nO,hnO⟩ : ∃ nO,nO = O.length:=⟨_,rfl⟩
 rw [← hnO] at hOn ⊢
 have HNO : Hid (O.length = nO):=hnO.symm
 have HR3:=Lib.hid hR3
 clear hO hown3 hR3 hnO HSl HMp y1
 go_wp2
 go_loopw [21] (fun iv wr => SgsRel kd O m w3 iv wr) (fun iv _ => nO - (intOf iv).toNat)
 case atStart => exact ⟨0,[],rfl,Nat.zero_le _,BrB.nil kd,HMp3.out,one_refl w3 m⟩
 case round =>
  obtain ⟨i2,kl,rfl,hin2,hbr,hmap,hgr⟩:=hrel
  rw [HNO.out] at hin2
  have HBr:=Lib.hid hbr
  have HMap:=Lib.hid hmap
  have HGr:=Lib.hid hgr
  clear hbr hmap hgr
  by_cases hi2 : i2 < nO
  ·have di2 : decide ((i2 : Int) < (nO : Int)) = true:=by simp; omega
   obtain ⟨x,hx⟩ : ∃ x,O[i2]? = some x:=⟨_,List.getElem?_eq_getElem (by rw [HNO.out]; exact hi2)⟩
   obtain ⟨g,rfl,hgm,T,hT⟩ : ∃ g,A3 = some ⟨g,0,none⟩∧wm.heap.size≤g∧∃ T,Blk w3 g 46 (O.flatMap vtc ++ T).toArray:=by
    rcases HR3.out with h | h
    ·have:=flat_length vtc 22 O (vtc_len O)
     rw [h,HNO.out] at this
     simp at this; omega
    ·exact h
   have hTr : Blk wr g 46 (O.flatMap vtc ++ T).toArray:=hT.kept HGr.out (by intro e; injection e with e; omega)
   have x1 : rowAt wr g (i2 * 22) 22 = some x.cells:=RowE.vt (T:=T) (w0:=wr) ⟨hTr,one_refl wr g⟩ hx
   have HXi:=Lib.hid hx
   have HXv:=Lib.hid (HO.out.1.2 x (List.mem_of_getElem? hx))
   have hmw : m < wr.heap.size:=HMap.out.is.lt
   clear hx hTr hT
   go_upto_region 5 with (refine wpList_store_blk rfl 46 (.tmp 13) (.tmp 24) rfl wr.heap.size x.cells rfl rfl 46 zeroV.cells (Blk.new wr _ _) (by rfl) (by kernel_rfl) (fun u hu => one_vt x hu) ?_; intro w4 hB4 hg4 hsz4)
   have HGr4 : Hid (w3.grownBy w4 (some m)):=(one_alloc HGr.out _).andThen hg4 (fun k hk => by injection hk with hk; subst hk; exact .inl HGr.out.size)
   have HMap4 : Hid (MapB Nm.val w4 m kl):=(HMap.out.alloc _).kept hg4 (by intro e; injection e with e; omega)
   obtain ⟨z,hz⟩ : ∃ z,z = wr.heap.size:=⟨_,rfl⟩
   rw [← hz] at hB4 ⊢
   have hzm : z ≠ m:=by omega
   have hmw4 : m < w4.heap.size:=HMap4.out.is.lt
   have x4 : w4.cell? ⟨z,0,none⟩ = some (.int .i64 x.kind):=hB4.cell 0
   have HB4:=Lib.hid hB4
   clear hg4 hsz4 x1 hz HMap HGr hmw hB4
   try go_frame
   by_cases h1 : x.kind = kd
   ·have e1 : (x.kind == kd) = true:=by rw [h1]; exact beq_self_eq_true _
    have HK:=Lib.hid h1
    clear h1
    obtain ⟨sn,hsn9,hsn⟩ : ∃ sn : Nat,sn≤9∧x.signer = (sn : Int):=by
     obtain ⟨hv,_⟩:=HXv.out.2.1
     have h9:=hv.2.1
     exact ⟨x.signer.toNat,by omega,by omega⟩
    obtain ⟨k,hk⟩ : ∃ k : Nm,k = x.value:=⟨_,rfl⟩
    obtain ⟨S,hS⟩ : ∃ S : Nat,S = sgsF (pK kd k) (O.take i2):=⟨_,rfl⟩
    have hS10 : S < 1024:=by
     rw [hS]
     refine sgsF_lt (fun v hv => ?_)
     obtain ⟨hv,_⟩:=(HO.out.1.2 v (List.mem_of_mem_take hv)).2.1
     exact hv.2.1
    have HKk:=Lib.hid hk
    have HSn:=Lib.hid hsn
    have HS:=Lib.hid hS
    have HLk : Hid ((alook k kl).getD (.int .i64 0) = .int .i64 (S : Int)):=by unfold Hid; rw [hS]; exact HBr.out.1 k
    have HCells : Hid (∀ V,Blk V z 46 x.cells→rowAt V z 14 8 = some x.value.cells∧V.cell? ⟨z,4,none⟩ = some (.int .i64 (sn : Int))):=fun V hV => ⟨x.row_value hV,by rw [← hsn]; exact hV.cell 4⟩
    clear hk hsn hS
    go_wp2_with fail
    refine rgD (fun V => rowAt V z 14 8 = some x.value.cells∧V.cell? ⟨z,4,none⟩ = some (.int .i64 (sn : Int))) (HCells.out _ HB4.out.drew) fun hHeld => ?_
    refine tkD 29 0 ?_
    go_frame
    refine tkD 30 1 ?_
    go_frame
    refine tkD 31 2 ?_
    go_frame
    refine tkD 33 4 ?_
    go_frame
    refine tkD 34 5 ?_
    go_frame
    refine wpAnyH_takeD (some 35) (i:=6) (v:=(.int .i64 ((2 ^ sn : Nat) : Int))) rfl rfl (by kernel_rfl) (by kernel_rfl) (by kernel_rfl) (fun _ _ _ h => h) (by rfl) (fun wq _ => run_shl1 (.tmp 34) sn rfl rfl hsn9 wq) (by assumption) ?_
    go_frame
    refine wpAnyH_ready (rs:=[3,8]) (by kernel_rfl) (by simp) ?_
    refine AllReadyH.cons rfl (fun K hK => ?_) (AllReadyH.cons rfl (fun K hK => ?_) AllReadyH.nil)
    ·rw [if_pos (by rfl)]
     refine wp_ranv (.int .i64 (S : Int)) ((run_lookN (.tmp 29) (.tmp 31) rfl m k rfl (by rw [HKk.out]; rfl) (w:=w4.drew) (HMap4.out.below (Below.refl w4.heap.size w4).drew hmw4)).trans (by rw [HLk.out])) ?_
     refine hK.out _ _ (HCells.out _ HB4.out.drew) (fun hHeld => ?_)
     clear hK K
     try go_frame
     refine wpAnyH_takeD (some 36) (i:=7) (v:=(.int .i64 ((S ||| 2 ^ sn : Nat) : Int))) rfl rfl (by kernel_rfl) (by kernel_rfl) (by kernel_rfl) (fun _ _ _ h => h) (by rfl) (fun wq _ => run_orm (.tmp 32) (.tmp 35) S sn rfl rfl rfl hS10 hsn9 wq) (by assumption) ?_
     go_frame
     refine rd1 8 fun K hK => ?_
     rw [if_pos (by rfl)]
     refine wp_entN (.tmp 29) (.tmp 31) rfl m k rfl (by rw [HKk.out]; rfl) (w:=w4.drew) (HMap4.out.below (Below.refl w4.heap.size w4).drew hmw4) ?_; intro w5 b5 v5 kl5 hE5 hA5 hU5 hl5 hg5 hs5; have HLk5 : Hid ((alook k kl5).getD (.int .i64 0) = .int .i64 (S : Int)):=by (unfold Hid; rw [hA5 k,if_pos rfl,Option.getD_some]; exact HLk.out)
     have HA5:=Lib.hid hA5; have HU5:=Lib.hid hU5; clear hA5 hU5; have HB5 : Hid (Blk w5 z 46 x.cells):=(HB4.out.drew).kept hg5 (by intro e; injection e with e; exact hzm e); have HE5:=Lib.hid hE5; clear hE5
     refine hK.out _ _ (HCells.out _ HB5.out) (fun hHeld => ?_)
     clear hK K
     try go_frame
     refine tkD 38 9 ?_
     go_frame
     refine rd1 10 fun K hK => ?_
     rw [if_pos (by rfl)]
     refine wp_estN (.tmp 29) (.tmp 38) (.tmp 36) rfl m b5 k (.int .i64 ((S ||| 2 ^ sn : Nat) : Int)) rfl rfl rfl (w:=w5) HE5.out ?_; intro w6 kl6 hK6 hM6 hU6 hl6 hg6 hs6; have HK6:=Lib.hid hK6; have HU6:=Lib.hid hU6; clear hK6 hU6; have HB6 : Hid (Blk w6 z 46 x.cells):=HB5.out.kept hg6 (by intro e; injection e with e; exact hzm e); have HM6:=Lib.hid hM6; clear hM6
     refine hK.out _ _ (HCells.out _ HB6.out) (fun hHeld => ?_)
     clear hK K
     try go_frame
     refine dnD ?_
     have hgr6 : w3.grownBy w6 (some m):=((one_drew HGr4.out).trans hg5).trans hg6
     have HBr6 : Hid (BrB kd (O.take (i2 + 1)) kl6):=BrB.step HKk.out HBr.out HXi.out HSn.out hsn9 HK.out HS.out hS10 HK6.out HA5.out HU5.out HU6.out hl5 hl6
     go_wp2_with fail
     go_roundw
     case rel => exact ⟨i2 + 1,kl6,by go_num,by rw [HNO.out]; omega,HBr6.out,HM6.out,hgr6⟩
     case measure => simp [intOf]; omega
    ·rw [if_pos (by rfl)]
     refine wp_entN (.tmp 29) (.tmp 31) rfl m k rfl (by rw [HKk.out]; rfl) (w:=w4.drew) (HMap4.out.below (Below.refl w4.heap.size w4).drew hmw4) ?_; intro w5 b5 v5 kl5 hE5 hA5 hU5 hl5 hg5 hs5; have HLk5 : Hid ((alook k kl5).getD (.int .i64 0) = .int .i64 (S : Int)):=by (unfold Hid; rw [hA5 k,if_pos rfl,Option.getD_some]; exact HLk.out)
     have HA5:=Lib.hid hA5; have HU5:=Lib.hid hU5; clear hA5 hU5; have HB5 : Hid (Blk w5 z 46 x.cells):=(HB4.out.drew).kept hg5 (by intro e; injection e with e; exact hzm e); have HE5:=Lib.hid hE5; clear hE5
     refine hK.out _ _ (HCells.out _ HB5.out) (fun hHeld => ?_)
     clear hK K
     try go_frame
     refine tkD 38 9 ?_
     go_frame
     refine rd1 3 fun K hK => ?_
     rw [if_pos (by rfl)]
     refine wp_ranv (.int .i64 (S : Int)) ((run_lookN (.tmp 29) (.tmp 31) rfl m k rfl (by rw [HKk.out]; rfl) (w:=w5) HE5.out.isB).trans (by rw [HLk5.out])) ?_
     refine hK.out _ _ (HCells.out _ HB5.out) (fun hHeld => ?_)
     clear hK K
     try go_frame
     refine wpAnyH_takeD (some 36) (i:=7) (v:=(.int .i64 ((S ||| 2 ^ sn : Nat) : Int))) rfl rfl (by kernel_rfl) (by kernel_rfl) (by kernel_rfl) (fun _ _ _ h => h) (by rfl) (fun wq _ => run_orm (.tmp 32) (.tmp 35) S sn rfl rfl rfl hS10 hsn9 wq) (by assumption) ?_
     go_frame
     refine rd1 10 fun K hK => ?_
     rw [if_pos (by rfl)]
     refine wp_estN (.tmp 29) (.tmp 38) (.tmp 36) rfl m b5 k (.int .i64 ((S ||| 2 ^ sn : Nat) : Int)) rfl rfl rfl (w:=w5) HE5.out ?_; intro w6 kl6 hK6 hM6 hU6 hl6 hg6 hs6; have HK6:=Lib.hid hK6; have HU6:=Lib.hid hU6; clear hK6 hU6; have HB6 : Hid (Blk w6 z 46 x.cells):=HB5.out.kept hg6 (by intro e; injection e with e; exact hzm e); have HM6:=Lib.hid hM6; clear hM6
     refine hK.out _ _ (HCells.out _ HB6.out) (fun hHeld => ?_)
     clear hK K
     try go_frame
     refine dnD ?_
     have hgr6 : w3.grownBy w6 (some m):=((one_drew HGr4.out).trans hg5).trans hg6
     have HBr6 : Hid (BrB kd (O.take (i2 + 1)) kl6):=BrB.step HKk.out HBr.out HXi.out HSn.out hsn9 HK.out HS.out hS10 HK6.out HA5.out HU5.out HU6.out hl5 hl6
     go_wp2_with fail
     go_roundw
     case rel => exact ⟨i2 + 1,kl6,by go_num,by rw [HNO.out]; omega,HBr6.out,HM6.out,hgr6⟩
     case measure => simp [intOf]; omega
   ·have e1 : (x.kind == kd) = false:=by simpa using h1
    have HK:=Lib.hid h1
    clear h1
    go_wp2
    go_roundw
    case rel => exact ⟨i2 + 1,kl,by go_num,by rw [HNO.out]; omega,HBr.out.skip HXi.out HK.out,HMap4.out,HGr4.out⟩
    case measure => simp [intOf]; omega
  ·have di2 : decide ((i2 : Int) < (nO : Int)) = false:=by simp; omega
   have hall : BrB kd O kl:=by
    have h:=HBr.out
    rwa [List.take_of_length_le (by rw [HNO.out]; omega)] at h
   have HAll:=Lib.hid hall
   clear hall
   go_wp2
   go_ret
   exact ⟨m,O,kl,rfl,HO.out,by rw [HNO.out,HN.out]; exact hOn,HAll.out,HMap.out,HM0.out,(hb0m.trans (hb3.mono hb0m.size)).grown HGr.out (Nat.le_trans hb0m.size hb3.size) (fun k hk => by injection hk with hk; subst hk; exact HM0.out)⟩
end
section
open Go.RowKit Go.Shelf Go.Sort
def litK (LF n : Nat) : Nat:=if n = 0 then 170 else if n = 1 then 171 else LF
structure SlK (t e : TypeId) (m ke kS LF : Nat) : Prop where
 info : ∃ i,Tryz.prog.info? t = some i∧i.desc = .slice e
 packed : Tryz.prog.packed t = false
 elem : ∃ ie,Tryz.prog.info? e = some ie∧ie.size = m∧∀ n,2≤n→Lib.swapperK n ie ke = kS
 big : 2 < kS
 find : Tryz.prog.funcs.findIdx? (·.name == "internal/reflectlite" ++ ".Swapper$" ++ toString kS) = some LF
 kind : ∀ w,(Extern.Rtype.kind e).run Tryz.prog w = .ok ke w
 agg : ∀ w,(isAgg e).run Tryz.prog w = .ok true w
 ext : ∃ gS,∀ args W,(callFunc LF args).run Tryz.prog W = ((Extern.ReflectliteSwapper.swap gS args).run Tryz.prog W).andThen fun v w' => .ok (.value v) w'
theorem litK_found {ie : TypeInfo} {t e : TypeId} {m ke kS LF : Nat} (S : SlK t e m ke kS LF) (h4 : ∀ n,2≤n→Lib.swapperK n ie ke = kS) (n : Nat) :
  Tryz.prog.funcs.findIdx? (·.name == "internal/reflectlite" ++ ".Swapper$" ++ toString (Lib.swapperK n ie ke)) = some (litK LF n) := by
 rcases Nat.lt_or_ge n 2 with h | h
 ·rcases Nat.eq_zero_or_pos n with h0 | h0
  ·subst h0; kernel_rfl
  ·obtain rfl : n = 1:=by omega
   kernel_rfl
 ·rw [h4 n h]
  unfold litK
  rw [if_neg (by omega),if_neg (by omega)]
  exact S.find
set_option maxRecDepth 100000 in
theorem sliceK_any {α : Type} [Inhabited α] {F : Nat} {lb : Array Value} {lt : α→α→Bool} {t e : TypeId} {m ke kS LF : Nat} (S : SlK t e m ke kS LF) (c : CellsOf α) (hl : ∀ x,(c.enc x).length = m) (hm0 : 0 < m) (h1 : ∀ x,∀ v ∈ c.enc x,v.oneCell' = true)
  (eg : ∀ args w,(callFunc F args).run Tryz.prog w = .ok (.enter F args) w) (l : List α) (g n cap : Nat) (w : World) (hle : LessE c e w g l lt F lb) (hblk : Blk w g e (l.flatMap c.enc ++ c.tail).toArray) (hn : l.length = n) (hsm : n≤1000000) :
  Calls Tryz.prog 116 #[.iface t (.slice (some ⟨g,0,none⟩) n cap),.func (.func F) #[] lb] w fun e' w' => e' = .returned (.tuple #[])∧PRow c e g l w w':=by
 obtain ⟨i,hi,hd⟩:=S.info
 obtain ⟨ie,h2,h3,h4⟩:=S.elem
 have hrow : PRow c e g l w (sliceWorld Tryz.prog slRen t (some ⟨g,0,none⟩) n cap w):=⟨l,((RowE.self hblk).alloc _).alloc _,List.Perm.refl _⟩
 obtain ⟨gS,hext⟩:=S.ext
 have H9 : Lit c.enc m e LF gS:=⟨hext,⟨ie,h2,h3⟩,S.agg,hl,h1⟩
 refine Any.sort_Slice_of_pdq slLays t e i ie hi hd S.packed h2 ke S.kind (some ⟨g,0,none⟩) n cap (by omega) (litK LF n) (litK_found S h4 n) (.func F) #[] lb w (fun w' => PRow c e g l w w') ?_
 by_cases h : 2≤n
 ·have e1 : litK LF n = LF:=by unfold litK; rw [if_neg (by omega),if_neg (by omega)]
  have e2 : sliceBound Tryz.prog e ie ke (some ⟨g,0,none⟩) n cap = #[.slice (some ⟨g,0,none⟩) n cap,typeHandle Tryz.prog e]:=by unfold sliceBound; rw [h4 n h,if_neg (by have:=S.big; omega)]
  rw [e1,e2]
  have HS : Srt c e w g n LF F #[.slice (some ⟨g,0,none⟩) n cap,typeHandle Tryz.prog e] lb lt l:=⟨eg,hle,swapAll_lit n cap H9 e w,hn,hsm⟩
  exact (pdq_any HS (brk_lit n cap H9 hm0 e w F lb l hn hsm) n 0 n (Lib.bitLen n) _ hrow (Nat.zero_le _) (Nat.le_refl _) (by omega) (by have:=bitLen_le n; omega)).mono fun e' w' h => ⟨h.1,hrow.trans h.2⟩
 ·have HS : Srt c e w g n (litK LF n) F (sliceBound Tryz.prog e ie ke (some ⟨g,0,none⟩) n cap) lb lt l:=⟨eg,hle,fun _ _ _ _ _ _ _ _ h' => absurd h' h,hn,hsm⟩
  exact (pdq_any HS (fun a b V _ hab hb => absurd hb (by omega)) n 0 n (Lib.bitLen n) _ hrow (Nat.zero_le _) (Nat.le_refl _) (by omega) (by have:=bitLen_le n; omega)).mono fun e' w' h => ⟨h.1,hrow.trans h.2⟩
theorem sliceK_nil {F : Nat} {lb : Array Value} {t e : TypeId} {m ke kS LF : Nat} (S : SlK t e m ke kS LF) (cap : Nat) (w : World) :
  Calls Tryz.prog 116 #[.iface t (.slice none 0 cap),.func (.func F) #[] lb] w fun e' w' => e' = .returned (.tuple #[])∧Below w.heap.size w w':=by
 obtain ⟨i,hi,hd⟩:=S.info
 obtain ⟨ie,h2,h3,h4⟩:=S.elem
 refine Any.sort_Slice_of_pdq slLays t e i ie hi hd S.packed h2 ke S.kind none 0 cap (by omega) (litK LF 0) (litK_found S h4 0) (.func F) #[] lb w (fun w' => Below w.heap.size w w') ?_
 refine (pdq0_any _ _ _ _).mono fun e' w' h => ⟨h.1,?_⟩
 have hb : Below w.heap.size w (sliceWorld Tryz.prog slRen t none 0 cap w):=((Below.refl _ _).alloc (Nat.le_refl _) _).alloc (by simp) _
 exact hb.trans (h.2.mono hb.size)
end
section
open Go.RowKit
attribute [local go_sem ↓] Go.wp_at_zero Go.wp_at_succ loadNm loadVt loadSg loadEv
attribute [local go_sem] runNm runVt runSg runEv pickRow_some rowAt_drew rowAt_drewN
theorem one_nmc {u : Value} (k : Nm) (h : u ∈ nmc k) : u.oneCell' = true:=by
 simp at h
 rcases h with rfl | rfl | rfl | rfl | rfl | rfl | rfl | rfl <;> rfl
theorem RowE.nm {T : List Value} {w0 W : World} {g i : Nat} {l : List Nm} {x : Nm} (h : RowE ⟨nmc,T⟩ 24 w0 g l W) (hx : l[i]? = some x) : rowAt W g (i * 8) 8 = some x.cells:=by
 refine rowAt_of (fun j u hu => ?_) rfl
 have:=row_cell (c:=⟨nmc,T⟩) (m:=8) (fun _ => rfl) h.blk i j x u hx (by simpa using hu)
 rwa [Nat.zero_add] at this
set_option maxRecDepth 100000 in
set_option maxHeartbeats 2000000 in
theorem nmLess_on (T : List Value) (B g n c : Nat) (l0 : List Nm) (w0 : World) (hB : Blk w0 B 75 #[.slice (some ⟨g,0,none⟩) n c]) (hne : B ≠ g) (hn : l0.length = n) :
  LessE ⟨nmc,T⟩ 24 w0 g l0 lessN 276 #[.pointer (some ⟨B,0,none⟩)]:=by
 intro W l i j x y hr hp hx hy
 have hi : i < n:=by rw [← hn,← hp.length_eq]; exact (List.getElem?_eq_some_iff.1 hx).1
 have hj : j < n:=by rw [← hn,← hp.length_eq]; exact (List.getElem?_eq_some_iff.1 hy).1
 have hc0 : W.cell? ⟨B,0,none⟩ = some (.slice (some ⟨g,0,none⟩) n c):=(hr.box hB hne).cell 0
 have HRows : Hid (∀ V,Below W.heap.size W V→V.cell? ⟨B,0,none⟩ = some (.slice (some ⟨g,0,none⟩) n c)∧rowAt V g (i * 8) 8 = some x.cells∧rowAt V g (j * 8) 8 = some y.cells) :=
  fun V hV => ⟨(hV.cell (p:=⟨B,0,none⟩) (hr.box hB hne).lt).trans hc0,rowAt_below (hr.nm hx) hV hr.blk.lt,rowAt_below (hr.nm hy) hV hr.blk.lt⟩
 have HL : Hid (∀ V,Below W.heap.size W V→Calls Tryz.prog 158 #[x.val,y.val] V (BoolPost V (lessN x y))) :=
  fun V hV => hless_any x y V
 obtain ⟨r,hrr⟩ : ∃ r,r = lessN x y:=⟨_,rfl⟩
 rw [← hrr] at HL ⊢
 clear hrr hc0 hr hp hx hy hB hn
 have hbw : Below W.heap.size W W:=Below.refl _ _
 show Calls Tryz.prog 276 #[.int .i64 (i : Int),.int .i64 (j : Int),.pointer (some ⟨B,0,none⟩)] W _
 go_enter Tryz.func276,Tryz.ntmps276
 go_upto_region 1 with fail
 refine rgD (fun w' => w'.cell? ⟨B,0,none⟩ = some (.slice (some ⟨g,0,none⟩) n c)∧rowAt w' g (i * 8) 8 = some x.cells∧rowAt w' g (j * 8) 8 = some y.cells) (HRows.out _ hbw.drew) fun hHeld => ?_
 refine tkD 6 0 ?_
 go_frame
 refine tkD 7 1 ?_
 go_frame
 refine tkD 8 2 ?_
 go_frame
 refine tkD 9 3 ?_
 go_frame
 refine tkD 10 4 ?_
 go_frame
 refine tkD 11 5 ?_
 go_frame
 refine tkD 12 6 ?_
 go_frame
 refine tkD 13 7 ?_
 go_frame
 refine rd1 8 fun K hK => ?_
 go_simp
 refine (HL.out _ hbw.drew).mono ?_; rintro en w2 ⟨rfl,hb2⟩; have hbw2:=hbw.drew.trans (hb2.mono hbw.size)
 go_wp2_with fail
 refine hK.out _ _ (HRows.out _ hbw2) (fun hHeld => ?_)
 clear hK K
 try go_frame
 refine tkD 5 9 ?_
 go_frame
 refine dnD ?_
 go_wp2
 go_ret
 exact ⟨rfl,hbw2⟩
instance : Inhabited Nm:=⟨Nm.zero⟩
noncomputable def nmT : TypeInfo:=(Tryz.prog.info? 75).get (by kernel_rfl)
noncomputable def nmE : TypeInfo:=(Tryz.prog.info? 24).get (by kernel_rfl)
theorem nmE_k (n : Nat) (h : 2≤n) : Lib.swapperK n nmE 17 = 5:=by
 have a : nmE.hasPointers = false:=by kernel_rfl
 have b : nmE.bytes = 8:=by kernel_rfl
 have c0 : (n == 0) = false:=by simp; omega
 have c1 : (n == 1) = false:=by simp; omega
 unfold Lib.swapperK
 rw [a,b,c0,c1]; rfl
theorem slT_nm : SlK 75 24 8 17 5 174 :=
 ⟨⟨nmT,by kernel_rfl,by kernel_rfl⟩,by kernel_rfl,⟨nmE,by kernel_rfl,by kernel_rfl,nmE_k⟩,by omega,by kernel_rfl,fun _ => by kernel_rfl,fun _ => by kernel_rfl,
  ⟨true,fun args W => run_callFunc_extern Tryz.func174 (by kernel_rfl) (by kernel_rfl) (by kernel_rfl) (e:=Extern.ReflectliteSwapper.swap true) (by kernel_rfl) args W⟩⟩
theorem enters_nms (args : Array Value) (W : World) : (callFunc 276 args).run Tryz.prog W = .ok (.enter 276 args) W:=enters_of Tryz.func276 (by kernel_rfl) rfl args W
def NmMid (D : List Nm) (w : World) (pb : Nat) (v : Value) (e : Ending) (w3 : World) : Prop :=
 e = .returned (.tuple #[])∧Blk w3 pb 75 #[v]∧Below w.heap.size w w3∧∃ (l3 : List Nm),l3.Perm D∧w3.ownsRow w.heap.size 24 8 v l3.length (l3.flatMap nmc)
theorem nm_mid (w W : World) (pb : Nat) (v : Value) (D : List Nm) (hown : W.ownsRow w.heap.size 24 8 v D.length (D.flatMap nmc)) (hb : Below w.heap.size w W) (hpb : Blk W pb 75 #[v]) (hsm : D.length≤1000000) :
  Calls Tryz.prog 116 #[.iface 75 v,.func (.func 276) #[] #[.pointer (some ⟨pb,0,none⟩)]] W (NmMid D w pb v):=by
 rcases own_tail2 hown with ⟨rfl,h0,_⟩ | ⟨g,cap,T,rfl,hg,hblk,hcap,hcap2,hlen⟩
 ·refine (sliceK_nil slT_nm 0 W).mono ?_
  rintro e w3 ⟨rfl,hb3⟩
  have hD : D = []:=List.eq_nil_of_length_eq_zero h0
  subst hD
  exact ⟨rfl,hpb.below hb3 hpb.lt,hb.trans (hb3.mono hb.size),[],List.Perm.refl _,by simp,.inl ⟨rfl,rfl⟩⟩
 ·have hne : pb ≠ g:=by
   intro e
   subst e
   unfold Blk at hpb hblk
   rw [hpb] at hblk
   injection hblk with hh
   injection hh with _ ht
   exact absurd ht (by decide)
  refine (sliceK_any slT_nm ⟨nmc,T⟩ (fun _ => rfl) (by decide) (fun x v hv => one_nmc x hv) (fun args W => enters_nms args W) D g D.length cap W (nmLess_on T pb g D.length cap D W hpb hne rfl) hblk rfl hsm).mono ?_
  rintro e w3 ⟨rfl,l3,hr3,hp3⟩
  have hl3:=hp3.length_eq
  have f3:=flat_length nmc 8 l3 (nmc_len l3)
  have fD:=flat_length nmc 8 D (nmc_len D)
  refine ⟨rfl,hr3.box hpb hne,hb.grown hr3.kept hb.size (fun k hk => by injection hk with hk; subst hk; exact hg),l3,hp3,f3,.inr ⟨g,cap,_,by rw [hl3],hg,hr3.blk,by rw [hl3]; exact hcap,hcap2,?_,?_⟩⟩
  ·show (l3.flatMap nmc ++ T).length = _
   rw [List.length_append,f3,← hlen,fD,hl3]
  ·show (l3.flatMap nmc ++ T).take (l3.length * 8) = _
   rw [← f3,List.take_left]
end
end Go.Proofs.YtadllffeoibelaaGreat
