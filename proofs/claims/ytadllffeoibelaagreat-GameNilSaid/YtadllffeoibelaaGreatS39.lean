/-
  What these parts of the proof come to, functions walked and plain laws: Vfirst, Fits. No condition.
-/
import Derived.Test.YtadllffeoibelaaGreatS38
import Derived.Test.YtadllffeoibelaaGreatS9
import Derived.Test.YtadllffeoibelaaGreatS37
namespace Go.Proofs.YtadllffeoibelaaGreat
section
open Go.RowKit Go.Shelf
attribute [local go_sem ↓] Go.wp_at_zero Go.wp_at_succ loadNm loadVt loadSg loadEv loadVl
attribute [local go_sem] runNm runVt runSg runEv runVl pickRow_some rowAt_drew rowAt_drewN
set_option maxRecDepth 100000 in
set_option maxHeartbeats 8000000 in
theorem first_any {w : World} {b : Nat} {M f : Int} {q s : Nat} {p : Nm} {A : Option Addr} {c mo : Nat} {O : List Vt} {ow : Int→Int→Bool} (h : VrAt w b M (q : Int) (s : Int) f p A c mo O ow) (hq : q = quoF (popF (xOf M) 10)) (hq10 : q≤10)
  (A' : Option Addr) (n' c' : Nat) (l : List Vt) (hn : l.length = n') (hr : Rd w w.heap.size A' (l.flatMap vtc)) (hsm : n'≤1000000) (hl : ∀ v ∈ l,ValidP v) (hs : (xOf M).testBit s = true) (wt : Bool) :
  Calls Tryz.prog 161 #[.pointer (some ⟨b,0,none⟩),.slice A' n' c',.bool wt] w (OptPost (FirstR M q p s f l wt ow) w):=by
 obtain ⟨w1,hw1⟩ : ∃ w1,w1 = w.alloc (.cells zeroVc 46):=⟨_,rfl⟩
 have hb1 : Below w.heap.size w w1:=by rw [hw1]; exact (Below.refl _ _).alloc (Nat.le_refl _) _
 obtain ⟨g,hg⟩ : ∃ g,g = w.heap.size:=⟨_,rfl⟩
 have hG1 : Blk w1 g 46 zeroVc:=by rw [hw1,hg]; exact Blk.new w _ _
 have hgw : w.heap.size≤g:=by omega
 have hgl : g < w1.heap.size:=hG1.lt
 have hV1:=h.below hb1
 have HV : Hid (∀ V,Below w1.heap.size w1 V→VrAt V b M (q : Int) (s : Int) f p A c mo O ow):=fun V hV => hV1.below hV
 have HG : Hid (∀ V,Below w1.heap.size w1 V→Blk V g 46 zeroVc):=fun V hV => hG1.below hV hG1.lt
 have HS : Hid (∀ V,Below w1.heap.size w1 V→V.cell? ⟨b,0,none⟩ = some (.int .i64 M)∧rowAt V b 4 8 = some p.cells∧V.cell? ⟨b,2,none⟩ = some (.int .i64 (s : Int))∧V.cell? ⟨b,1,none⟩ = some (.int .i64 (q : Int))):=fun V hV => ⟨(hV1.below hV).blk.cell 0,(hV1.below hV).row_parent,(hV1.below hV).blk.cell 2,(hV1.below hV).blk.cell 1⟩
 have HSgd:=Lib.hid (signed_any hV1 3 1)
 have HRl : Hid (∀ V,Below w1.heap.size w1 V→Rd V V.heap.size A' (l.flatMap vtc)):=fun V hV => (hr.below (hb1.trans (hV.mono hb1.size))).more (Nat.le_trans hb1.size hV.size)
 have HCe : Hid (∀ V,Below w1.heap.size w1 V→Calls Tryz.prog 207 #[.int .i64 M,p.val,.slice A' n' c',.int .i64 (s : Int)] V (NmsPost M p s 2 q l V)):=fun V hV => by rw [hq]; exact certs_any M p A' n' c' l s V hn (HRl.out V hV) hsm hl hs
 have HEc : Hid (∀ (k : Nm) (V : World),Below w1.heap.size w1 V→Calls Tryz.prog 208 #[.int .i64 M,p.val,.slice A' n' c',.int .i64 (s : Int),k.val] V (EchoersPost M p s l k V)):=fun k V hV => echoers_any M p A' n' c' l s k V hn (HRl.out V hV) hsm hl hs
 have HLo : Hid (∀ (X : Int) (V : World),Calls Tryz.prog 209 #[.int .i64 X,.int .i64 (q : Int)] V fun e w' => e = .returned (.int .i64 ((lowF (xOf X) q : Nat) : Int))∧Below V.heap.size V w'):=fun X V => low_any X q hq10 V
 have HVo : Hid (∀ (V : World) (x : Vl) (sup : Int),Below w1.heap.size w1 V→Calls Tryz.prog 206 #[.pointer (some ⟨b,0,none⟩),.int .i64 3,.int .i64 1,x.val,.int .i64 sup] V (fun e w' => e = .returned (.tuple #[(Vt.mk 3 (s : Int) 1 x.choice f sup p x.name).val,.bool true])∧Below V.heap.size V w')):=fun V x sup hV => vvote_any (hV1.below hV) 3 1 x sup
 have hN6 : l.length≤1000000:=by omega
 have HSg9 : Hid (∀ O,AccG M p (s : Int) (slB s l) O→∀ v ∈ O,0≤v.signer∧v.signer≤9):=fun O hO v hv => (hl v (slB_mem (hO.1.2 v hv).1).1).2.1
 have HB1:=Lib.hid hb1
 have HW1:=Lib.hid hw1
 have HGg:=Lib.hid hg
 obtain ⟨d,hd⟩ : ∃ d,d = ow 3 1:=⟨_,rfl⟩
 rw [← hd] at HSgd
 have hbx : Below w1.heap.size w1 w1:=Below.refl _ _
 clear h hn hr hsm hl hs hw1 hb1 hg hG1 hV1 hq hq10
 go_enter Tryz.func161,Tryz.ntmps161
 go_upto_region 1 with fail
 simp only [← HW1.out,← HGg.out]
 cases d with
 | true =>
  have HD:=Lib.hid hd.symm
  clear hd
  go_wp2_with (first
   | (go_at_call 204; refine HSgd.out.mono ?_; rintro en w2 ⟨rfl,hw2⟩; replace hw2:=hw2.symm; subst hw2)
   | (refine wpList_store_blk rfl 46 (.tmp 6) (.tmp 12) rfl g zeroVc rfl rfl 46 zeroVc (HG.out _ hbx) rfl size_vt (fun u hu => one_zv hu) ?_; intro w9 hR9 hg9 hsz9))
  refine bodyPost_ret (results_row_tmp (g:=g) (cs:=zeroVc) rfl _ _ _ _ _ rfl hR9 Tryz.underlying46 rfl size_vt) rfl ⟨none,rfl,.inl HD.out,?_⟩
  exact HB1.out.grown hg9 HB1.out.size (fun k hk => by injection hk with hk; subst hk; exact hgw)
 | false =>
  have HD:=Lib.hid hd.symm
  clear hd
  go_upto_region 3 with (go_at_call 204; refine HSgd.out.mono ?_; rintro en w2 ⟨rfl,hw2⟩; replace hw2:=hw2.symm; subst hw2)
  refine rgD (fun V => V.cell? ⟨b,0,none⟩ = some (.int .i64 M)∧rowAt V b 4 8 = some p.cells∧V.cell? ⟨b,2,none⟩ = some (.int .i64 (s : Int))∧V.cell? ⟨b,1,none⟩ = some (.int .i64 (q : Int))) (HS.out _ hbx.drew) fun hHeld => ?_
  refine tkD 13 0 ?_
  go_frame
  refine tkD 14 1 ?_
  go_frame
  refine tkD 15 2 ?_
  go_frame
  refine tkD 16 3 ?_
  go_frame
  refine tkD 17 4 ?_
  go_frame
  refine tkD 18 5 ?_
  go_frame
  refine tkD 19 6 ?_
  go_frame
  refine tkD 20 7 ?_
  go_frame
  refine tkD 21 8 ?_
  go_frame
  refine tkD 22 9 ?_
  go_frame
  refine tkD 23 10 ?_
  go_frame
  refine tkD 24 11 ?_
  go_frame
  refine tkD 25 12 ?_
  go_frame
  refine rd1 13 fun K hK => ?_
  go_simp
  refine (HCe.out _ hbx.drew).mono ?_; rintro en w3 ⟨v3,O3,L,rfl,hO3,hA3,hL3,hown3,hb3⟩; have hbx3:=hbx.drew.trans (hb3.mono (Nat.le_refl _)); obtain ⟨A3,c3,rfl,hR3,hne3⟩ : ∃ A1 c1,v3 = .slice A1 L.length c1∧Rd w3 w3.heap.size A1 (L.flatMap nmc)∧∀ p' : Addr,A1 = some p'→some p'.block ≠ some g:=(by
   rcases hown3.2 with ⟨rfl,h0⟩ | ⟨g',cap,cur,rfl,hg',_⟩
   ·exact ⟨none,0,by rw [h0],.inl (List.eq_nil_of_length_eq_zero (by rw [hown3.1,h0,Nat.zero_mul])),fun p' h => (by cases h)⟩
   ·exact ⟨_,cap,rfl,Rd.of_own hown3,fun p' h e => by injection h with h; subst h; injection e with e; exact absurd e (Nat.ne_of_gt (Nat.lt_of_lt_of_le hgl hg'))⟩)
  have HNe:=Lib.hid hne3; clear hne3
  have HR3:=Lib.hid hR3; have HO3:=Lib.hid hO3; have HA3:=Lib.hid hA3; obtain ⟨nL,hnL⟩ : ∃ nL,L.length = nL:=⟨_,rfl⟩; rw [hnL] at hL3 ⊢; have HNL:=Lib.hid hnL; clear hown3 hR3 hO3 hA3 hb3 hnL
  go_wp2_with fail
  refine hK.out _ _ (HS.out _ hbx3) (fun hHeld => ?_)
  clear hK K
  try go_frame
  refine tkD 8 14 ?_
  go_frame
  refine dnD ?_
  have hnL6 : nL≤1000000:=by omega
  rcases Nat.eq_zero_or_pos nL with h0 | h0
  ·subst h0
   have hnil : L = []:=List.eq_nil_of_length_eq_zero HNL.out
   subst hnil
   cases wt with
   | true =>
    obtain ⟨v,hv⟩ : ∃ v : Vt,v = Vt.mk 3 (s : Int) 1 0 f 0 p Nm.zero:=⟨_,rfl⟩
    have HVv:=Lib.hid hv
    have HVo' : Hid (∀ (V : World),Below w1.heap.size w1 V→Calls Tryz.prog 206 #[.pointer (some ⟨b,0,none⟩),.int .i64 3,.int .i64 1,.agg zeroVl,.int .i64 0] V (fun e w' => e = .returned (.tuple #[v.val,.bool true])∧Below V.heap.size V w')):=fun V hV => by rw [hv]; exact HVo.out V Vl.zero 0 hV
    clear hv
    go_wp2_with (first
     | (go_at_call 206; refine (HVo'.out _ hbx3).mono ?_; rintro en w7 ⟨rfl,hb7⟩; have hbx7:=hbx3.trans (hb7.mono hbx3.size))
     | (refine wpList_store_blk rfl 46 (.tmp 6) (.tmp 67) rfl g (v).cells rfl rfl 46 zeroVc (HG.out _ hbx7) rfl size_vt (fun u hu => one_vt _ hu) ?_; intro w9 hR9 hg9 hsz9))
    have hb07:=HB1.out.trans (hbx7.mono HB1.out.size)
    refine bodyPost_ret (results_row_tmp (g:=g) (cs:=(v).cells) rfl _ _ _ _ _ rfl hR9 Tryz.underlying46 rfl size_vt) rfl ⟨some (v),rfl,⟨HD.out,.inr ⟨rfl,⟨O3,HO3.out,HA3.out⟩,HVv.out⟩⟩,?_⟩
    exact Below.grown (hb07) hg9 (Below.size (hb07)) (fun k hk => by injection hk with hk; subst hk; exact hgw)
   | false =>
    have hb03:=HB1.out.trans (hbx3.mono HB1.out.size)
    go_wp2_with (refine wpList_store_blk rfl 46 (.tmp 6) (.tmp 63) rfl g zeroVc rfl rfl 46 zeroVc (HG.out _ hbx3) rfl size_vt (fun u hu => one_zv hu) ?_; intro w9 hR9 hg9 hsz9)
    refine bodyPost_ret (results_row_tmp (g:=g) (cs:=zeroVc) rfl _ _ _ _ _ rfl hR9 Tryz.underlying46 rfl size_vt) rfl ⟨none,rfl,.inr ⟨rfl,O3,HO3.out,HA3.out⟩,?_⟩
    exact Below.grown (hb03) hg9 (Below.size (hb03)) (fun k hk => by injection hk with hk; subst hk; exact hgw)
  ·have d0 : decide ((0 : Int) < (nL : Int)) = true:=by simp; omega
   obtain ⟨x,hx⟩ : ∃ x,L[0]? = some x:=⟨_,List.getElem?_eq_getElem (by rw [HNL.out]; exact h0)⟩
   obtain ⟨g0,o,rfl,hb,hcell⟩:=HR3.out.cells (by intro e; have:=flat_length nmc 8 L (nmc_len L); rw [e,HNL.out] at this; simp at this; omega)
   clear hcell
   have HX3 : Hid (∀ V,Below w3.heap.size w3 V→rowAt V g0 o 8 = some x.cells):=fun V hV => by have:=(HR3.out.below hV).row hx; rwa [Nat.zero_mul,Nat.add_zero] at this
   have hxa:=(HA3.out x).1 (List.mem_of_getElem? hx)
   have HXa:=Lib.hid hxa
   have HX0:=Lib.hid hx
   have HS3 : Hid (∀ V,Below w3.heap.size w3 V→V.cell? ⟨b,0,none⟩ = some (.int .i64 M)∧rowAt V b 4 8 = some p.cells∧V.cell? ⟨b,2,none⟩ = some (.int .i64 (s : Int))∧V.cell? ⟨b,1,none⟩ = some (.int .i64 (q : Int))∧rowAt V g0 o 8 = some x.cells):=fun V hV => by
    obtain ⟨h1,h2,h3,h4⟩:=HS.out V (hbx3.trans (hV.mono hbx3.size))
    exact ⟨h1,h2,h3,h4,HX3.out V hV⟩
   have hb33 : Below w3.heap.size w3 w3:=Below.refl _ _
   have hln : (0 : Int) < (nL : Int):=by omega
   clear hx hxa
   go_upto_region 5 with fail
   refine rgD (fun V => V.cell? ⟨b,0,none⟩ = some (.int .i64 M)∧rowAt V b 4 8 = some p.cells∧V.cell? ⟨b,2,none⟩ = some (.int .i64 (s : Int))∧V.cell? ⟨b,1,none⟩ = some (.int .i64 (q : Int))∧rowAt V g0 o 8 = some x.cells) (HS3.out _ hb33.drew) fun hHeld => ?_
   refine tkD 30 0 ?_
   go_frame
   refine tkD 31 1 ?_
   go_frame
   refine tkD 32 2 ?_
   go_frame
   refine tkD 33 3 ?_
   go_frame
   refine tkD 34 4 ?_
   go_frame
   refine tkD 35 5 ?_
   go_frame
   refine tkD 36 6 ?_
   go_frame
   refine tkD 37 7 ?_
   go_frame
   refine tkD 38 8 ?_
   go_frame
   refine tkD 39 9 ?_
   go_frame
   refine tkD 40 10 ?_
   go_frame
   refine tkD 41 11 ?_
   go_frame
   refine tkD 42 12 ?_
   go_frame
   refine tkD 43 13 ?_
   go_frame
   refine tkD 44 14 ?_
   go_frame
   refine tkD 45 15 ?_
   go_frame
   refine rd1 16 fun K hK => ?_
   go_simp
   refine (HEc.out x _ (hbx3.trans (hb33.drew.mono hbx3.size))).mono ?_; rintro en w5 ⟨O5,rfl,hO5,hb5⟩; have hb35:=hb33.drew.trans (hb5.mono (Nat.le_refl _)); obtain ⟨S5,hS5⟩ : ∃ S5,S5 = sgsF (pK 2 x) O5:=⟨_,rfl⟩; have hS510 : S5 < 1024:=(by rw [hS5]; exact sgsF_lt (HSg9.out O5 hO5)); rw [← hS5]; have HO5:=Lib.hid hO5; have HS5:=Lib.hid hS5; clear hO5 hS5 hb5
   go_wp2_with fail
   refine hK.out _ _ (HS3.out _ hb35) (fun hHeld => ?_)
   clear hK K
   try go_frame
   refine tkD 9 17 ?_
   go_frame
   refine dnD ?_
   go_upto_region 6 with fail
   have hbx5:=hbx3.trans (hb35.mono hbx3.size)
   obtain ⟨lw,hlw⟩ : ∃ lw,lw = lowF S5 q:=⟨_,rfl⟩
   have HLo5 : Hid (∀ V,Calls Tryz.prog 209 #[.int .i64 (S5 : Int),.int .i64 (q : Int)] V fun e w' => e = .returned (.int .i64 (lw : Int))∧Below V.heap.size V w'):=fun V => by
    have h:=HLo.out (S5 : Int) V
    rwa [xOf_nat S5 hS510,← hlw] at h
   obtain ⟨v,hv⟩ : ∃ v : Vt,v = Vt.mk 3 (s : Int) 1 1 f (lw : Int) p x:=⟨_,rfl⟩
   have HVv:=Lib.hid hv
   have HLw:=Lib.hid hlw
   have HVo' : Hid (∀ (V : World),Below w1.heap.size w1 V→Calls Tryz.prog 206 #[.pointer (some ⟨b,0,none⟩),.int .i64 3,.int .i64 1,(Vl.mk 1 x).val,.int .i64 (lw : Int)] V (fun e w' => e = .returned (.tuple #[v.val,.bool true])∧Below V.heap.size V w')):=fun V hV => by rw [hv]; exact HVo.out V (Vl.mk 1 x) lw hV
   have HK9 : Hid (∀ V V',Below w3.heap.size w3 V→V.grownBy V' (some g)→V'.cell? ⟨b,0,none⟩ = some (.int .i64 M)∧rowAt V' b 4 8 = some p.cells∧V'.cell? ⟨b,2,none⟩ = some (.int .i64 (s : Int))∧V'.cell? ⟨b,1,none⟩ = some (.int .i64 (q : Int))∧rowAt V' g0 o 8 = some x.cells):=fun V V' hV hg => by
    have hv:=HV.out V (hbx3.trans (hV.mono hbx3.size))
    have hbg : b ≠ g:=by intro e; have h1:=hv.blk; have h2:=HG.out V (hbx3.trans (hV.mono hbx3.size)); rw [e] at h1; exact absurd (blk_type h1 h2) (by decide)
    have hb9:=hv.blk.kept hg (by intro e; injection e with e; exact hbg e)
    refine ⟨hb9.cell 0,Blk.part hb9 4 p.cells (fun j u hu => by
     have hj : j < 8:=(Array.getElem?_eq_some_iff.1 hu).1
     rcases (by omega : j = 0∨j = 1∨j = 2∨j = 3∨j = 4∨j = 5∨j = 6∨j = 7) with rfl | rfl | rfl | rfl | rfl | rfl | rfl | rfl <;> exact hu),hb9.cell 2,hb9.cell 1,?_⟩
    have h9:=(((HR3.out.below hV).kept hg hV.size HNe.out).row HX0.out)
    rwa [Nat.zero_mul,Nat.add_zero] at h9
   clear hv hlw
   refine rgD (fun V => V.cell? ⟨b,0,none⟩ = some (.int .i64 M)∧rowAt V b 4 8 = some p.cells∧V.cell? ⟨b,2,none⟩ = some (.int .i64 (s : Int))∧V.cell? ⟨b,1,none⟩ = some (.int .i64 (q : Int))∧rowAt V g0 o 8 = some x.cells) (HS3.out _ hb35.drew) fun hHeld => ?_
   refine tkD 47 0 ?_
   go_frame
   refine tkD 48 1 ?_
   go_frame
   refine tkD 49 2 ?_
   go_frame
   refine tkD 50 3 ?_
   go_frame
   refine wpAnyH_takeD (some 51) (i:=4) (v:=(Vl.mk 1 x).val) rfl rfl (by kernel_rfl) (by kernel_rfl) (by kernel_rfl) (fun _ _ _ h => h) (by rfl) (fun wq _ => run_buildVl 1 x (.const (.int .i64 1)) (.tmp 50) rfl rfl rfl wq) (by assumption) ?_
   go_frame
   refine tkD 52 5 ?_
   go_frame
   refine tkD 53 6 ?_
   go_frame
   refine tkD 54 7 ?_
   go_frame
   refine tkD 55 8 ?_
   go_frame
   refine tkD 56 9 ?_
   go_frame
   refine rd1 10 fun K hK => ?_
   go_simp
   refine (HLo5.out _).mono ?_; rintro en w6 ⟨rfl,hb6⟩; have hb36:=hb35.drew.trans (hb6.mono hb35.size)
   go_wp2_with fail
   refine hK.out _ _ (HS3.out _ hb36) (fun hHeld => ?_)
   clear hK K
   try go_frame
   refine rd1 11 fun K hK => ?_
   go_simp
   refine (HVo'.out _ (hbx3.trans (hb36.mono hbx3.size))).mono ?_; rintro en w7 ⟨rfl,hb7⟩; have hb37:=hb36.trans (hb7.mono hb36.size); have hbx7:=hbx3.trans (hb37.mono hbx3.size)
   go_wp2_with fail
   refine hK.out _ _ (HS3.out _ hb37) (fun hHeld => ?_)
   clear hK K
   try go_frame
   refine tkD 59 12 ?_
   go_frame
   refine tkD 60 13 ?_
   go_frame
   refine rd1 14 fun K hK => ?_
   rw [if_pos (by rfl)]
   refine wp_store_blk 46 (.tmp 6) (.tmp 59) (by rfl) g v.cells (by rfl) (by rfl) 46 zeroVc (HG.out _ hbx7) (by rfl) size_vt (fun u hu => one_vt _ hu) (by rfl) ?_; intro w9 hR9 hg9 hsz9
   refine hK.out _ _ (HK9.out _ _ hb37 hg9) (fun hHeld => ?_)
   clear hK K
   try go_frame
   refine tkD 7 15 ?_
   go_frame
   refine dnD ?_
   go_wp2_with fail
   have hb07:=HB1.out.trans (hbx7.mono HB1.out.size)
   refine bodyPost_ret (results_row_tmp (g:=g) (cs:=(v).cells) rfl _ _ _ _ _ rfl hR9 Tryz.underlying46 rfl size_vt) rfl ⟨some (v),rfl,⟨HD.out,.inl ⟨O3,O5,x,HO3.out,HO5.out,HXa.out.1,HXa.out.2,by rw [← HS5.out,← HLw.out]; exact HVv.out⟩⟩,?_⟩
   exact Below.grown (hb07) hg9 (Below.size (hb07)) (fun k hk => by injection hk with hk; subst hk; exact hgw)
end
section
open Go.RowKit Go.Shelf
attribute [local go_sem ↓] Go.wp_at_zero Go.wp_at_succ loadNm loadVt loadSg loadEv loadVl
attribute [local go_sem] runNm runVt runSg runEv runVl pickRow_some rowAt_drew rowAt_drewN
set_option maxRecDepth 100000 in
set_option maxHeartbeats 2000000 in
theorem fitP1 (x : Vl) (b n0 : Nat) (W0 : World) (hb : b < n0) (hB0 : Blk W0 b 258 x.cells) : FitOn n0 W0 212 #[.pointer (some ⟨b,0,none⟩)] (fun v => decide (vlOf v = x)):=by
 refine ⟨enters_of Tryz.func212 (by kernel_rfl) rfl,fun V hV u hu => ?_⟩
 have hB:=hB0.below hV hb
 obtain ⟨W1,hW1⟩ : ∃ W1,W1 = V.alloc (Obj.cells u.cells 46):=⟨_,rfl⟩
 obtain ⟨z,hz⟩ : ∃ z,z = V.heap.size:=⟨_,rfl⟩
 have hbw : Below V.heap.size V W1:=by rw [hW1]; exact (Below.refl _ _).alloc (Nat.le_refl _) _
 have hB1 : Blk W1 b 258 x.cells:=hB.below hbw hB.lt
 have hZ1 : Blk W1 z 46 u.cells:=by rw [hW1,hz]; exact Blk.new V _ _
 have HS : Hid (∀ W,Below W1.heap.size W1 W→rowAt W z 0 22 = some u.cells∧rowAt W b 0 9 = some x.cells):=fun W hW => ⟨(hZ1.below hW hZ1.lt).row 22 rfl,(hB1.below hW hB1.lt).row 9 rfl⟩
 obtain ⟨y,hy⟩ : ∃ y,y = vlOf u:=⟨_,rfl⟩
 have HOf : Hid (∀ W,Calls Tryz.prog 213 #[u.val] W fun e w' => e = .returned y.val∧Below W.heap.size W w'):=fun W => by rw [hy]; exact agof_any u W
 rw [← hy]
 obtain ⟨k,hk⟩ : ∃ k,k = decide (y = x):=⟨_,rfl⟩
 have e9 : ∀ W,(Op.equalIn 10000 258 (.agg y.cells) (.agg x.cells)).run Tryz.prog W = .ok k W:=fun W => by rw [hk]; exact eqVl y x W
 rw [← hk]
 have HW1:=Lib.hid hW1
 have HZ:=Lib.hid hz
 have HBw:=Lib.hid hbw
 have hbx : Below W1.heap.size W1 W1:=Below.refl _ _
 clear hB hB1 hZ1 hW1 hz hbw hB0 hy hk hV hb
 show Calls Tryz.prog 212 #[u.val,.pointer (some ⟨b,0,none⟩)] V _
 go_enter Tryz.func212,Tryz.ntmps212
 go_upto_region 1 with fail
 simp only [← HW1.out,← HZ.out]
 refine rgD (fun W => rowAt W z 0 22 = some u.cells∧rowAt W b 0 9 = some x.cells) (HS.out _ hbx.drew) fun hHeld => ?_
 refine tkD 4 0 ?_
 go_frame
 refine tkD 6 2 ?_
 go_frame
 refine rd1 1 fun K hK => ?_
 go_simp
 refine (HOf.out _).mono ?_; rintro en w2 ⟨rfl,hb2⟩; have hbx2:=hbx.drew.trans (hb2.mono (Nat.le_refl _))
 go_wp2_with fail
 refine hK.out _ _ (HS.out _ hbx2) (fun hHeld => ?_)
 clear hK K
 try go_frame
 refine tkD 7 3 ?_
 go_frame
 refine tkD 3 4 ?_
 go_frame
 refine dnD ?_
 go_wp2
 go_ret
 exact ⟨rfl,HBw.out.trans (hbx2.mono HBw.out.size)⟩
set_option maxRecDepth 100000 in
set_option maxHeartbeats 2000000 in
theorem fitQ2 (x : Vl) (b n0 : Nat) (W0 : World) (hb : b < n0) (hB0 : Blk W0 b 258 x.cells) : FitOn n0 W0 217 #[.pointer (some ⟨b,0,none⟩)] (fun v => decide (vlOf v = x)):=by
 refine ⟨enters_of Tryz.func217 (by kernel_rfl) rfl,fun V hV u hu => ?_⟩
 have hB:=hB0.below hV hb
 obtain ⟨W1,hW1⟩ : ∃ W1,W1 = V.alloc (Obj.cells u.cells 46):=⟨_,rfl⟩
 obtain ⟨z,hz⟩ : ∃ z,z = V.heap.size:=⟨_,rfl⟩
 have hbw : Below V.heap.size V W1:=by rw [hW1]; exact (Below.refl _ _).alloc (Nat.le_refl _) _
 have hB1 : Blk W1 b 258 x.cells:=hB.below hbw hB.lt
 have hZ1 : Blk W1 z 46 u.cells:=by rw [hW1,hz]; exact Blk.new V _ _
 have HS : Hid (∀ W,Below W1.heap.size W1 W→rowAt W z 0 22 = some u.cells∧rowAt W b 0 9 = some x.cells):=fun W hW => ⟨(hZ1.below hW hZ1.lt).row 22 rfl,(hB1.below hW hB1.lt).row 9 rfl⟩
 obtain ⟨y,hy⟩ : ∃ y,y = vlOf u:=⟨_,rfl⟩
 have HOf : Hid (∀ W,Calls Tryz.prog 213 #[u.val] W fun e w' => e = .returned y.val∧Below W.heap.size W w'):=fun W => by rw [hy]; exact agof_any u W
 rw [← hy]
 obtain ⟨k,hk⟩ : ∃ k,k = decide (y = x):=⟨_,rfl⟩
 have e9 : ∀ W,(Op.equalIn 10000 258 (.agg y.cells) (.agg x.cells)).run Tryz.prog W = .ok k W:=fun W => by rw [hk]; exact eqVl y x W
 rw [← hk]
 have HW1:=Lib.hid hW1
 have HZ:=Lib.hid hz
 have HBw:=Lib.hid hbw
 have hbx : Below W1.heap.size W1 W1:=Below.refl _ _
 clear hB hB1 hZ1 hW1 hz hbw hB0 hy hk hV hb
 show Calls Tryz.prog 217 #[u.val,.pointer (some ⟨b,0,none⟩)] V _
 go_enter Tryz.func217,Tryz.ntmps217
 go_upto_region 1 with fail
 simp only [← HW1.out,← HZ.out]
 refine rgD (fun W => rowAt W z 0 22 = some u.cells∧rowAt W b 0 9 = some x.cells) (HS.out _ hbx.drew) fun hHeld => ?_
 refine tkD 4 0 ?_
 go_frame
 refine tkD 6 2 ?_
 go_frame
 refine rd1 1 fun K hK => ?_
 go_simp
 refine (HOf.out _).mono ?_; rintro en w2 ⟨rfl,hb2⟩; have hbx2:=hbx.drew.trans (hb2.mono (Nat.le_refl _))
 go_wp2_with fail
 refine hK.out _ _ (HS.out _ hbx2) (fun hHeld => ?_)
 clear hK K
 try go_frame
 refine tkD 7 3 ?_
 go_frame
 refine tkD 3 4 ?_
 go_frame
 refine dnD ?_
 go_wp2
 go_ret
 exact ⟨rfl,HBw.out.trans (hbx2.mono HBw.out.size)⟩
set_option maxRecDepth 100000 in
set_option maxHeartbeats 2000000 in
theorem fitP2 (n0 : Nat) (W0 : World) : FitOn n0 W0 215 #[] (fun _ => true):=by
 refine ⟨enters_of Tryz.func215 (by kernel_rfl) rfl,fun V hV u hu => ?_⟩
 show Calls Tryz.prog 215 #[u.val] V _
 have hbw : Below V.heap.size V (V.alloc (Obj.cells u.cells 46)):=(Below.refl _ _).alloc (Nat.le_refl _) _
 go_enter Tryz.func215,Tryz.ntmps215
 go_wp2
 go_ret
 exact ⟨rfl,hbw⟩
set_option maxRecDepth 100000 in
set_option maxHeartbeats 2000000 in
theorem fitQ1 (n0 : Nat) (W0 : World) : FitOn n0 W0 216 #[] (fun v => decide (v.choice = 2)):=by
 refine ⟨enters_of Tryz.func216 (by kernel_rfl) rfl,fun V hV u hu => ?_⟩
 show Calls Tryz.prog 216 #[u.val] V _
 have hbw : Below V.heap.size V (V.alloc (Obj.cells u.cells 46)):=(Below.refl _ _).alloc (Nat.le_refl _) _
 have x3 : (V.alloc (Obj.cells u.cells 46)).cell? ⟨V.heap.size,3,none⟩ = some (.int .i64 u.choice):=(Blk.new V 46 u.cells).cell 3
 obtain ⟨k,hk⟩ : ∃ k,k = decide (u.choice = 2):=⟨_,rfl⟩
 have e3 : (u.choice == 2) = k:=by rw [hk]; rfl
 rw [← hk]
 clear hk
 go_enter Tryz.func216,Tryz.ntmps216
 go_wp2
 go_ret
 exact ⟨rfl,hbw⟩
end
end Go.Proofs.YtadllffeoibelaaGreat
