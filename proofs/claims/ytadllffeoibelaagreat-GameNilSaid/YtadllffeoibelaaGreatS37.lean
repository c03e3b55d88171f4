/-
  What these parts of the proof come to, functions walked and plain laws: Who, NxP, NxO. No condition.
-/
import Derived.Test.YtadllffeoibelaaGreatS15
import Derived.Test.YtadllffeoibelaaGreatS24
import Derived.Test.YtadllffeoibelaaGreatS28
import Derived.Test.YtadllffeoibelaaGreatS36
import Derived.Test.YtadllffeoibelaaGreatS9
namespace Go.Proofs.YtadllffeoibelaaGreat
section
open Go.RowKit Go.Shelf
attribute [local go_sem ↓] Go.wp_at_zero Go.wp_at_succ loadNm loadVt loadSg loadEv loadVl
attribute [local go_sem] runNm runVt runSg runEv runVl pickRow_some rowAt_drew rowAt_drewN
theorem take_nxt {α : Type} {l : List α} {i : Nat} {x : α} (hx : l[i]? = some x) : l.take (i + 1) = l.take i ++ [x]:=by
 rw [List.take_add_one,hx,Option.toList_some]
def pW (kd rd : Int) (pr : Vt→Bool) (v : Vt) : Bool:=decide (v.kind = kd) && (decide (v.round = rd) && pr v)
def addF (b : Bool) (v : Vt) (m : Nat) : Nat:=if b = true then m ||| 2 ^ v.signer.toNat else m
theorem size_mask : (Tryz.prog.info? 22).map (·.size) = some 1:=by kernel_rfl
set_option maxRecDepth 100000 in
set_option maxHeartbeats 4000000 in
theorem who1_any (kd rd : Int) (pr : Vt→Bool) (bk br bf bm g n0 m : Nat) (lb : Array Value) (W0 W : World) (v : Vt) (hk : Blk W bk 3 #[.int .i64 kd]) (hr : Blk W br 3 #[.int .i64 rd]) (hf : Blk W bf 110 #[.func (.func g) #[] lb])
  (hm : Blk W bm 22 #[.int .i64 (m : Int)]) (hm10 : m < 1024) (hF : FitOn n0 W0 g lb pr) (hW : Below n0 W0 W) (hn : n0≤W0.heap.size) (hv : ValidP v) :
  Calls Tryz.prog 253 #[v.val,.pointer (some ⟨bk,0,none⟩),.pointer (some ⟨br,0,none⟩),.pointer (some ⟨bf,0,none⟩),.pointer (some ⟨bm,0,none⟩)] W fun e w' =>
   e = .returned (.tuple #[])∧Blk w' bm 22 #[.int .i64 ((addF (pW kd rd pr v) v m : Nat) : Int)]∧W.grownBy w' (some bm):=by
 obtain ⟨w1,hw1⟩ : ∃ w1,w1 = W.alloc (.cells v.cells 46):=⟨_,rfl⟩
 have hb1 : Below W.heap.size W w1:=by rw [hw1]; exact (Below.refl _ _).alloc (Nat.le_refl _) _
 obtain ⟨z,hz⟩ : ∃ z,z = W.heap.size:=⟨_,rfl⟩
 have hx1 : Blk w1 z 46 v.cells:=by rw [hw1,hz]; exact Blk.new W _ _
 have hk1:=hk.below hb1 hk.lt
 have hr1:=hr.below hb1 hr.lt
 have hf1:=hf.below hb1 hf.lt
 have hm1:=hm.below hb1 hm.lt
 have y1 : w1.cell? ⟨bk,0,none⟩ = some (.int .i64 kd):=hk1.cell 0
 have y2 : w1.cell? ⟨br,0,none⟩ = some (.int .i64 rd):=hr1.cell 0
 have y3 : w1.cell? ⟨bf,0,none⟩ = some (.func (.func g) #[] lb):=hf1.cell 0
 have x0 : w1.cell? ⟨z,0,none⟩ = some (.int .i64 v.kind):=hx1.cell 0
 have x2 : w1.cell? ⟨z,2,none⟩ = some (.int .i64 v.round):=hx1.cell 2
 have x9 : rowAt w1 z 0 22 = some v.cells:=hx1.row 22 rfl
 have hgr1 : W.grownBy w1 (some bm):=below_grown hb1
 have HP : Hid (∀ V,Below w1.heap.size w1 V→Calls Tryz.prog g (#[v.val] ++ lb) V (BoolPost V (pr v))):=fun V hV => hF.tells V (hW.trans ((hb1.trans (hV.mono hb1.size)).mono (Nat.le_trans hn hW.size))) v hv
 have eg:=hF.ent
 obtain ⟨sn,hsn9,hsn⟩ : ∃ sn : Nat,sn≤9∧v.signer = (sn : Int):=⟨v.signer.toNat,by have:=hv.2.1; omega,by have:=hv.2.1; omega⟩
 have hno : pW kd rd pr v = false→addF (pW kd rd pr v) v m = m:=fun h => by rw [h]; rfl
 have hyes : pW kd rd pr v = true→addF (pW kd rd pr v) v m = m ||| 2 ^ sn:=fun h => by rw [h,addF,if_pos rfl,hsn]; rfl
 obtain ⟨k3,hk3⟩ : ∃ k,k = pr v:=⟨_,rfl⟩
 rw [← hk3] at HP
 obtain ⟨t,ht⟩ : ∃ t,t = addF (pW kd rd pr v) v m:=⟨_,rfl⟩
 rw [← ht] at hno hyes ⊢
 have hpw : pW kd rd pr v = (decide (v.kind = kd) && (decide (v.round = rd) && k3)):=by rw [hk3]; rfl
 rw [hpw] at hno hyes
 have HM:=Lib.hid hm1
 have HX:=Lib.hid hx1
 have HG:=Lib.hid hgr1
 have HW:=Lib.hid hw1
 have HZ:=Lib.hid hz
 have HNo:=Lib.hid hno
 have HYes:=Lib.hid hyes
 have HSn:=Lib.hid hsn
 clear hk hr hf hm hF hW hn hv hw1 hz hx1 hk1 hr1 hf1 hm1 hgr1 hno hyes ht hk3 hpw hsn
 go_enter Tryz.func253,Tryz.ntmps253
 go_upto_region 1 with fail
 simp only [← HW.out,← HZ.out]
 by_cases h1 : v.kind = kd
 ·have e1 : (v.kind == kd) = true:=by rw [h1]; exact beq_self_eq_true _
  have d1 : decide (v.kind = kd) = true:=by simpa using h1
  by_cases h2 : v.round = rd
  ·have e2 : (v.round == rd) = true:=by rw [h2]; exact beq_self_eq_true _
   have d2 : decide (v.round = rd) = true:=by simpa using h2
   rw [d1,d2] at HNo HYes
   clear h1 h2 d1 d2
   go_wp2_with fail
   refine (HP.out _ (Below.refl _ _)).mono ?_
   rintro en w2 ⟨rfl,hb2⟩
   have HM2 : Hid (Blk w2 bm 22 #[.int .i64 (m : Int)]):=HM.out.below hb2 HM.out.lt
   have HG2 : Hid (W.grownBy w2 (some bm)):=HG.out.trans (below_grown hb2)
   have HZM : Hid (z ≠ bm):=fun e => by have h1:=HX.out; have h2:=HM.out; rw [e] at h1; exact absurd (blk_type h1 h2) (by decide)
   have HS : Hid (∀ V,w2.grownBy V (some bm)→V.cell? ⟨z,4,none⟩ = some (.int .i64 (sn : Int))):=fun V hV => by rw [← HSn.out]; exact ((HX.out.below hb2 HX.out.lt).kept hV (fun e => by injection e with e; exact HZM.out e)).cell 4
   have HX2 : Hid (Blk w2 z 46 v.cells):=HX.out.below hb2 HX.out.lt
   cases k3 with
   | false =>
    have ht:=HNo.out rfl
    subst ht
    clear HNo HYes HS hb2 y1 y2 y3 x0 x2 x9
    go_wp2
    go_end0
    exact ⟨rfl,HM2.out,HG2.out⟩
   | true =>
    have ht:=HYes.out rfl
    subst ht
    clear HNo HYes hb2 y1 y2 y3 x0 x2 x9
    have ym : w2.drew.cell? ⟨bm,0,none⟩ = some (.int .i64 (m : Int)):=HM2.out.drew.cell 0
    go_wp2_with fail
    refine rgD (fun V => V.cell? ⟨z,4,none⟩ = some (.int .i64 (sn : Int))) (HS.out _ (one_drew (one_refl w2 bm))) fun hHeld => ?_
    refine tkD 22 1 ?_
    go_frame
    refine tkD 23 2 ?_
    go_frame
    refine wpAnyH_takeD (some 24) (i:=3) (v:=(.int .i64 ((2 ^ sn : Nat) : Int))) rfl rfl (by kernel_rfl) (by kernel_rfl) (by kernel_rfl) (fun _ _ _ h => h) (by rfl) (fun wq _ => run_shl1 (.tmp 23) sn rfl rfl hsn9 wq) (by assumption) ?_
    go_frame
    refine rd1 0 fun K hK => ?_
    go_simp
    refine hK.out _ _ (HS.out _ (one_drew (one_refl w2 bm))) (fun hHeld => ?_)
    clear hK K
    try go_frame
    refine wpAnyH_takeD (some 25) (i:=4) (v:=(.int .i64 ((m ||| 2 ^ sn : Nat) : Int))) rfl rfl (by kernel_rfl) (by kernel_rfl) (by kernel_rfl) (fun _ _ _ h => h) (by rfl) (fun wq _ => run_orm (.tmp 21) (.tmp 24) m sn rfl rfl rfl hm10 hsn9 wq) (by assumption) ?_
    go_frame
    refine rd1 5 fun K hK => ?_
    rw [if_pos (by rfl)]
    refine wp_store_cell 22 (.tmp 4) (.tmp 25) (by rfl) bm 0 (.int .i64 ((m ||| 2 ^ sn : Nat) : Int)) (by rfl) (by rfl) 22 _ (HM2.out.drew) (by simp) size_mask (by rfl) (by rfl) ?_; intro w5 hw5 hR5 hg5 hsz5
    refine hK.out _ _ (HS.out _ ((one_drew (one_refl w2 bm)).trans hg5)) (fun hHeld => ?_)
    clear hK K
    try go_frame
    refine dnD ?_
    go_wp2_with fail
    go_end0
    exact ⟨rfl,hR5,(one_drew HG2.out).trans hg5⟩
  ·have e2 : (v.round == rd) = false:=by simpa using h2
   have d2 : decide (v.round = rd) = false:=by simpa using h2
   rw [d1,d2] at HNo
   have ht:=HNo.out rfl
   subst ht
   clear h1 h2 d1 d2 HNo HYes
   go_wp2
   go_end0
   exact ⟨rfl,HM.out,HG.out⟩
 ·have e1 : (v.kind == kd) = false:=by simpa using h1
  have d1 : decide (v.kind = kd) = false:=by simpa using h1
  rw [d1] at HNo
  have ht:=HNo.out rfl
  subst ht
  clear h1 d1 HNo HYes
  go_wp2
  go_end0
  exact ⟨rfl,HM.out,HG.out⟩
def WhoRel (kd rd : Int) (pr : Vt→Bool) (O : List Vt) (bm : Nat) (w : World) (iv : Value) (wr : World) : Prop :=
 ∃ i : Nat,iv = .int .i64 (i : Int)∧i≤O.length∧Blk wr bm 22 #[.int .i64 ((sgsF (pW kd rd pr) (O.take i) : Nat) : Int)]∧w.grownBy wr (some bm)
set_option maxRecDepth 100000 in
set_option maxHeartbeats 4000000 in
theorem who_any {w : World} {b : Nat} {M q s f : Int} {p : Nm} {A : Option Addr} {c mo : Nat} {O : List Vt} {ow : Int→Int→Bool} (h : VrAt w b M q s f p A c mo O ow) (hO : ∀ v ∈ O,ValidP v) (hsm : O.length≤1000000)
  (kd rd : Int) (pr : Vt→Bool) (g : Nat) (lb : Array Value) (hF : FitOn w.heap.size w g lb pr) :
  Calls Tryz.prog 211 #[.pointer (some ⟨b,0,none⟩),.int .i64 kd,.int .i64 rd,.func (.func g) #[] lb] w fun e w' =>
   e = .returned (.int .i64 ((sgsF (pW kd rd pr) O : Nat) : Int))∧Below w.heap.size w w':=by
 obtain ⟨w1,hw1⟩ : ∃ w1,w1 = w.alloc (.cells #[.int .i64 kd] 3):=⟨_,rfl⟩
 obtain ⟨w2,hw2⟩ : ∃ w2,w2 = w1.alloc (.cells #[.int .i64 rd] 3):=⟨_,rfl⟩
 obtain ⟨w3,hw3⟩ : ∃ w3,w3 = w2.alloc (.cells #[.func (.func g) #[] lb] 110):=⟨_,rfl⟩
 obtain ⟨w4,hw4⟩ : ∃ w4,w4 = w3.alloc (.cells #[.int .i64 0] 22):=⟨_,rfl⟩
 have hs1 : w1.heap.size = w.heap.size + 1:=by rw [hw1]; simp
 have hs2 : w2.heap.size = w.heap.size + 1 + 1:=by rw [hw2,World.size_alloc,hs1]
 have hs3 : w3.heap.size = w.heap.size + 1 + 1 + 1:=by rw [hw3,World.size_alloc,hs2]
 have hb1 : Below w.heap.size w w1:=by rw [hw1]; exact (Below.refl _ _).alloc (Nat.le_refl _) _
 have hb2 : Below w.heap.size w w2:=by rw [hw2]; exact hb1.alloc hb1.size _
 have hb3 : Below w.heap.size w w3:=by rw [hw3]; exact hb2.alloc hb2.size _
 have hb4 : Below w.heap.size w w4:=by rw [hw4]; exact hb3.alloc hb3.size _
 obtain ⟨bk,hbk⟩ : ∃ g,g = w.heap.size:=⟨_,rfl⟩
 obtain ⟨br,hbr⟩ : ∃ g,g = w.heap.size + 1:=⟨_,rfl⟩
 obtain ⟨bf,hbf⟩ : ∃ g,g = w.heap.size + 1 + 1:=⟨_,rfl⟩
 obtain ⟨bm,hbm⟩ : ∃ g,g = w3.heap.size:=⟨_,rfl⟩
 have k4 : Blk w4 bk 3 #[.int .i64 kd]:=by rw [hw4,hw3,hw2,hw1,hbk]; exact (((Blk.new w _ _).alloc _).alloc _).alloc _
 have r4 : Blk w4 br 3 #[.int .i64 rd]:=by rw [hw4,hw3,hw2,hbr,← hs1]; exact ((Blk.new w1 _ _).alloc _).alloc _
 have f4 : Blk w4 bf 110 #[.func (.func g) #[] lb]:=by rw [hw4,hw3,hbf,← hs2]; exact (Blk.new w2 _ _).alloc _
 have m4 : Blk w4 bm 22 #[.int .i64 0]:=by rw [hw4,hbm]; exact Blk.new w3 _ _
 have hV4:=h.below hb4
 have y1 : w4.cell? ⟨b,12,none⟩ = some (.slice A O.length c):=hV4.blk.cell 12
 have hmw : w.heap.size≤bm:=by omega
 have hkm : bk ≠ bm:=by omega
 have hrm : br ≠ bm:=by omega
 have hfm : bf ≠ bm:=by omega
 have HR:=Lib.hid (h.rd)
 have HO:=Lib.hid hO
 have HK:=Lib.hid k4
 have HRr:=Lib.hid r4
 have HFb:=Lib.hid f4
 have HM4:=Lib.hid m4
 have HB4:=Lib.hid hb4
 have HW1:=Lib.hid hw1
 have HW2:=Lib.hid hw2
 have HW3:=Lib.hid hw3
 have HW4:=Lib.hid hw4
 have HBk:=Lib.hid hbk
 have HBr:=Lib.hid hbr
 have HBf:=Lib.hid hbf
 have HBm:=Lib.hid hbm
 have HF:=Lib.hid hF
 have ent : ∀ args W,(callFunc 253 args).run Tryz.prog W = .ok (.enter 253 args) W:=enters_of Tryz.func253 (by kernel_rfl) rfl
 obtain ⟨n,hn⟩ : ∃ n,O.length = n:=⟨_,rfl⟩
 rw [hn] at y1 hsm
 have HN:=Lib.hid hn
 clear h hV4 hO hF k4 r4 f4 m4 hb1 hb2 hb3 hb4 hw1 hw2 hw3 hw4 hbk hbr hbf hbm hs1 hs2 hs3 hn
 go_enter Tryz.func211,Tryz.ntmps211
 go_upto_region 1 with fail
 simp only [← HW1.out,← HW2.out,← HW3.out,← HBf.out]
 simp only [← HBr.out]
 go_upto_region 2 with fail
 simp only [← HW4.out,← HBm.out]
 simp only [← HBk.out]
 go_wp2
 go_loopw [19] (fun iv wr => WhoRel kd rd pr O bm w4 iv wr) (fun iv _ => n - (intOf iv).toNat)
 case atStart => exact ⟨0,rfl,Nat.zero_le _,HM4.out,one_refl w4 bm⟩
 case round =>
  obtain ⟨i,rfl,hin,hbm,hgr⟩:=hrel
  rw [HN.out] at hin
  obtain ⟨m,hm⟩ : ∃ m,m = sgsF (pW kd rd pr) (O.take i):=⟨_,rfl⟩
  rw [← hm] at hbm
  have hm10 : m < 1024:=by
   rw [hm]
   exact sgsF_lt (fun v hv => (HO.out v (List.mem_of_mem_take hv)).2.1)
  have HMm:=Lib.hid hm
  have HBm:=Lib.hid hbm
  have HGr:=Lib.hid hgr
  clear hm hbm hgr
  by_cases hi : i < n
  ·have di : decide ((i : Int) < (n : Int)) = true:=by simp; omega
   obtain ⟨x,hx⟩ : ∃ x,O[i]? = some x:=⟨_,List.getElem?_eq_getElem (by rw [HN.out]; exact hi)⟩
   have hbw : Below w.heap.size w wr:=HB4.out.grown HGr.out HB4.out.size (fun k hk => by injection hk with hk; subst hk; exact hmw)
   obtain ⟨g0,o,rfl,hb,hcell⟩:=HR.out.cells (by intro e; have:=flat_length vtc 22 O (vtc_len O); rw [e,HN.out] at this; simp at this; omega)
   clear hcell
   have x1 : rowAt wr g0 (o + i * 22) 22 = some x.cells:=(HR.out.below hbw).voteRow hx
   have HXx:=Lib.hid hx
   have HXv:=Lib.hid (HO.out x (List.mem_of_getElem? hx))
   clear hx
   go_upto_region 6 with (refine wpList_store_blk rfl 46 (.tmp 12) (.tmp 22) rfl wr.heap.size x.cells rfl rfl 46 zeroV.cells (Blk.new wr _ _) (by rfl) (by kernel_rfl) (fun u hu => one_vt x hu) ?_; intro w5 hB5 hg5 hsz5)
   have hbm5 : wr.heap.size ≠ bm:=by have:=HBm.out.lt; omega
   have HM5 : Hid (Blk w5 bm 22 #[.int .i64 (m : Int)]):=(HBm.out.alloc _).kept hg5 (by intro e; injection e with e; omega)
   have HG5 : Hid (w4.grownBy w5 (some bm)):=(one_alloc HGr.out _).andThen hg5 (fun k hk => by injection hk with hk; subst hk; exact .inl HGr.out.size)
   have hbw5 : Below w.heap.size w w5:=HB4.out.grown HG5.out HB4.out.size (fun k hk => by injection hk with hk; subst hk; exact hmw)
   obtain ⟨z,hz⟩ : ∃ z,z = wr.heap.size:=⟨_,rfl⟩
   rw [← hz] at hB5 ⊢
   have x5 : rowAt w5 z 0 22 = some x.cells:=hB5.row 22 rfl
   have HC:=Lib.hid (who1_any kd rd pr bk br bf bm g w.heap.size m lb w w5 x (HK.out.kept HG5.out (by intro e; injection e with e; exact hkm e)) (HRr.out.kept HG5.out (by intro e; injection e with e; exact hrm e)) (HFb.out.kept HG5.out (by intro e; injection e with e; exact hfm e)) HM5.out hm10 HF.out hbw5 (Nat.le_refl _) HXv.out)
   clear hB5 hg5 hsz5 hz x1 hbm5
   try go_frame
   go_wp2_with fail
   refine HC.out.mono ?_
   rintro en w6 ⟨rfl,hM6,hg6⟩
   have HM6:=Lib.hid hM6
   have HG6 : Hid (w4.grownBy w6 (some bm)):=HG5.out.trans hg6
   clear hM6 hg6 HC x5
   go_wp2
   go_roundw
   case rel =>
    refine ⟨i + 1,by go_num,by rw [HN.out]; omega,?_,HG6.out⟩
    rw [take_nxt HXx.out,sgsF_snoc,← HMm.out]
    exact HM6.out
   case measure => simp [intOf]; omega
  ·have di : decide ((i : Int) < (n : Int)) = false:=by simp; omega
   have hall : m = sgsF (pW kd rd pr) O:=by rw [HMm.out,List.take_of_length_le (by rw [HN.out]; omega)]
   have y2 : wr.cell? ⟨bm,0,none⟩ = some (.int .i64 (m : Int)):=HBm.out.cell 0
   have HAll:=Lib.hid hall
   clear hall
   go_wp2
   go_ret
   exact ⟨by rw [← HAll.out]; rfl,HB4.out.grown HGr.out HB4.out.size (fun k hk => by injection hk with hk; subst hk; exact hmw)⟩
end
section

def spF (s : Nat) (p : Nm) (l : List Vt) : List Vt:=l.filter fun x => decide (x.slot = (s : Int)) && decide (x.parent = p)
def owF (s : Nat) (p : Nm) (f : Int) (l : List Vt) (k r : Int) : Bool:=(spF s p l).any fun x => decide (x.signer = f) && (decide (x.kind = k) && decide (x.round = r))
def pV (k r : Int) (x : Vl) : Vt→Bool:=pW k r (fun v => decide (vlOf v = x))
def pA (k r : Int) : Vt→Bool:=pW k r (fun _ => true)
def pM (k r : Int) : Vt→Bool:=pW k r (fun v => decide (v.choice = 2))
section
variable (M : Int) (q : Nat) (p : Nm) (s : Nat) (f : Int)
def EchoR (l : List Vt) (H : List Nm) (ow : Int→Int→Bool) : Option Vt→Prop
 | none => ow 2 0 = true∨∃ O L,AccG M p (s : Int) (slB s l) O∧AscG 1 1 O L∧∀ k ∈ L,¬ k ∈ H
 | some v => ow 2 0 = false∧∃ O k,AccG M p (s : Int) (slB s l) O∧¬ k = Nm.zero∧1≤popF (sgsF (pK 1 k) O) 10∧k ∈ H∧v = ⟨2,s,0,1,f,0,p,k⟩
def FirstR (l : List Vt) (wt : Bool) (ow : Int→Int→Bool) : Option Vt→Prop
 | none => ow 3 1 = true∨(wt = false∧∃ O,AccG M p (s : Int) (slB s l) O∧AscG 2 q O [])
 | some v => ow 3 1 = false∧((∃ O O' k,AccG M p (s : Int) (slB s l) O∧AccG M p (s : Int) (slB s l) O'∧¬ k = Nm.zero∧q≤popF (sgsF (pK 2 k) O) 10∧v = ⟨3,s,1,1,f,((lowF (sgsF (pK 2 k) O') q : Nat) : Int),p,k⟩)
   ∨ (wt = true∧(∃ O,AccG M p (s : Int) (slB s l) O∧AscG 2 q O [])∧v = ⟨3,s,1,0,f,0,p,Nm.zero⟩))
def PrecR (O : List Vt) (ow : Int→Int→Bool) (r : Int) : Option Vt→Prop
 | none => ow 3 r = false∨ow 4 r = true∨((∀ x,IsVal 3 r O x→popF (sgsF (pV 3 r x) O) 10 < q)∧popF (sgsF (pA 3 r) O) 10 < q)
 | some v => ow 3 r = true∧ow 4 r = false∧((∃ x,IsVal 3 r O x∧q≤popF (sgsF (pV 3 r x) O) 10∧v = ⟨4,s,r,x.choice,f,((lowF (sgsF (pV 3 r x) O) q : Nat) : Int),p,x.name⟩)
   ∨ ((∀ x,IsVal 3 r O x→popF (sgsF (pV 3 r x) O) 10 < q)∧q≤popF (sgsF (pA 3 r) O) 10∧v = ⟨4,s,r,2,f,((lowF (sgsF (pA 3 r) O) q : Nat) : Int),p,Nm.zero⟩))
def PrevR (O : List Vt) (ow : Int→Int→Bool) (r : Int) : Option Vt→Prop
 | none => True
 | some v => ow 4 r = true∧ow 3 (r + 1) = false∧∃ (x : Vl) (m : Nat),(IsVal 4 r O x∨IsVal 3 r O x)∧m < 1024∧v = ⟨3,s,r + 1,x.choice,f,(m : Int),p,x.name⟩
def NextR (l : List Vt) (H : List Nm) (wt : Bool) : Option Vt→Prop
 | none => ¬ ((0≤f∧f≤9)∧(xOf M).testBit f.toNat = true)∨(xOf M).testBit s = false∨(∃ L,OutG M p s l L∧¬ L = []) ∨
   (OutG M p s l []∧EchoR M p s f (spF s p l) H (owF s p f l) none∧FirstR M q p s f (spF s p l) wt (owF s p f l) none∧∃ O,AccG M p (s : Int) (spF s p l) O∧∀ r : Int,1≤r→r≤12→PrecR q p s f O (owF s p f l) r none)
 | some v => ((0≤f∧f≤9)∧(xOf M).testBit f.toNat = true)∧(xOf M).testBit s = true∧OutG M p s l [] ∧
   (EchoR M p s f (spF s p l) H (owF s p f l) (some v) ∨
    (EchoR M p s f (spF s p l) H (owF s p f l) none ∧
     (FirstR M q p s f (spF s p l) wt (owF s p f l) (some v) ∨
      (FirstR M q p s f (spF s p l) wt (owF s p f l) none∧∃ (O : List Vt) (r : Int),AccG M p (s : Int) (spF s p l) O∧1≤r∧r≤12 ∧
       (∀ r',1≤r'→r' < r→PrecR q p s f O (owF s p f l) r' none)∧(PrecR q p s f O (owF s p f l) r (some v)∨(r < 12∧PrecR q p s f O (owF s p f l) r none∧PrevR p s f O (owF s p f l) r (some v)))))))
variable {M q p s f}
theorem IsVal.fits {k r : Int} {O : List Vt} {x : Vl} (hO : ∀ v ∈ O,ValidP v) (hk : k = 3∨k = 4) (h : IsVal k r O x) : (x.choice = 0∨x.choice = 1)∧(x.choice = 1 ↔ ¬ x.name = Nm.zero)∧1≤r∧r≤12:=by
 obtain ⟨v,hv,h1,h2,h3,rfl⟩:=h
 obtain ⟨_,_,a3,_,_,a6,a7,_⟩:=hO v hv
 unfold vlOf
 refine ⟨?_,a3,?_⟩
 ·rcases hk with hk | hk
  ·have:=a6 (by omega); show v.choice = 0∨v.choice = 1; omega
  ·have:=a7 (by omega); show v.choice = 0∨v.choice = 1; omega
 ·rcases hk with hk | hk
  ·have:=a6 (by omega); omega
  ·have:=a7 (by omega); omega
def DueP (s : Nat) (p : Nm) (f : Int) (ow : Int→Int→Bool) (v : Vt) : Prop:=ValidP v∧v.slot = (s : Int)∧v.signer = f∧v.parent = p∧ow v.kind v.round = false
theorem EchoR.due {l : List Vt} {H : List Nm} {ow : Int→Int→Bool} {v : Vt} (hs : s≤9) (hf : 0≤f∧f≤9) (h : EchoR M p s f l H ow (some v)) : DueP s p f ow v:=by
 obtain ⟨h1,O,k,_,h2,_,_,rfl⟩:=h
 exact ⟨⟨by simp,hf,by simp [h2],by simp,fun _ => ⟨by simp; omega,rfl,rfl,rfl⟩,by simp,by simp,by simp⟩,rfl,rfl,rfl,h1⟩
theorem low_sup (S k : Nat) : 0≤((lowF S k : Nat) : Int)∧((lowF S k : Nat) : Int)≤1023:=by have:=lowF_lt S k; omega
theorem FirstR.due {l : List Vt} {wt : Bool} {ow : Int→Int→Bool} {v : Vt} (hs : s≤9) (hf : 0≤f∧f≤9) (h : FirstR M q p s f l wt ow (some v)) : DueP s p f ow v:=by
 obtain ⟨h1,⟨O,O',k,_,_,h2,_,rfl⟩ | ⟨_,_,rfl⟩⟩:=h
 ·exact ⟨⟨by simp,hf,by simp [h2],low_sup _ _,by simp,fun _ => ⟨by simp; omega,by simp,by simp,by simp⟩,by simp,by simp⟩,rfl,rfl,rfl,h1⟩
 ·exact ⟨⟨by simp,hf,by simp,by simp,by simp,fun _ => ⟨by simp; omega,by simp,by simp,by simp⟩,by simp,by simp⟩,rfl,rfl,rfl,h1⟩
theorem PrecR.due {O : List Vt} {ow : Int→Int→Bool} {r : Int} {v : Vt} (hO : ∀ v ∈ O,ValidP v) (hs : s≤9) (hf : 0≤f∧f≤9) (hr : 1≤r∧r≤12) (h : PrecR q p s f O ow r (some v)) : DueP s p f ow v:=by
 obtain ⟨_,h1,⟨x,hx,_,rfl⟩ | ⟨_,_,rfl⟩⟩:=h
 ·obtain ⟨x1,x2,_⟩:=hx.fits hO (.inl rfl)
  exact ⟨⟨by simp,hf,x2,low_sup _ _,by simp,by simp,fun _ => ⟨by simp; omega,hr,by show 0≤x.choice∧x.choice≤2; omega⟩,by simp⟩,rfl,rfl,rfl,h1⟩
 ·exact ⟨⟨by simp,hf,by simp,low_sup _ _,by simp,by simp,fun _ => ⟨by simp; omega,hr,by simp⟩,by simp⟩,rfl,rfl,rfl,h1⟩
theorem PrevR.due {O : List Vt} {ow : Int→Int→Bool} {r : Int} {v : Vt} (hO : ∀ v ∈ O,ValidP v) (hs : s≤9) (hf : 0≤f∧f≤9) (hr : 1≤r∧r < 12) (h : PrevR p s f O ow r (some v)) : DueP s p f ow v:=by
 obtain ⟨_,h1,x,m,hx,hm,rfl⟩:=h
 have hx' : (x.choice = 0∨x.choice = 1)∧(x.choice = 1 ↔ ¬ x.name = Nm.zero):=by
  rcases hx with hx | hx
  ·have:=hx.fits hO (.inr rfl); exact ⟨this.1,this.2.1⟩
  ·have:=hx.fits hO (.inl rfl); exact ⟨this.1,this.2.1⟩
 exact ⟨⟨by simp,hf,hx'.2,by show 0≤(m : Int)∧(m : Int)≤1023; omega,by simp,fun _ => ⟨by simp; omega,by show 1≤r + 1∧r + 1≤12; omega,by show 0≤x.choice∧x.choice≤1; omega,.inl (by show r + 1 ≠ 1; omega)⟩,by simp,by simp⟩,rfl,rfl,rfl,h1⟩
theorem NextR.due {l : List Vt} {H : List Nm} {wt : Bool} {v : Vt} (hl : ∀ v ∈ l,ValidP v) (hs : s≤9) (h : NextR M q p s f l H wt (some v)) : DueP s p f (owF s p f l) v:=by
 obtain ⟨⟨hf,_⟩,_,_,h⟩:=h
 rcases h with h | ⟨_,h | ⟨_,O,r,hO,h1,h2,_,h⟩⟩
 ·exact h.due hs hf
 ·exact h.due hs hf
 ·have hV : ∀ v ∈ O,ValidP v:=fun v hv => hl v (List.mem_filter.1 (hO.1.2 v hv).1).1
  rcases h with h | ⟨h3,_,h⟩
  ·exact h.due hV hs hf ⟨h1,h2⟩
  ·exact h.due hV hs hf ⟨h1,h3⟩
end
end
section
open Go.RowKit
theorem zero_int (w : World) : (zeroValue 3).run Tryz.prog w = .ok (.int .i64 0) w:=by kernel_rfl
theorem run_lookT {o : Oper} {a : Act} (x y : Operand) (ho : o.op = .lookup 227 x y false) (m : Nat) (k : Int × Int) (hx : a.eval x = .map (some m)) (hy : a.eval y = encT k) {w : World} {kl : List ((Int × Int) × Value)} (h : MapB encT w m kl) :
  (execOp a.eval o).run Tryz.prog w = .ok (.value ((alook k kl).getD (.int .i64 0))) w:=by
 have hr:=h.is.look keyT Tryz.underlying227 (.int .i64 0) (zero_int w) k false
 unfold execOp
 rw [ho]
 simp only [hx,hy]
 simp only [Bool.false_eq_true,if_false] at hr
 simp [hr,Result.andThen]
theorem wp_entT {op : Oper} {a : Act} {K : Act→World→Prop} {Q : Exit→Act→World→Prop} (x y : Operand) (ho : op.op = .mapEntry 227 x y) (m : Nat) (k : Int × Int) (hx : a.eval x = .map (some m)) (hy : a.eval y = encT k) {w : World} {kl : List ((Int × Int) × Value)} (h : MapB encT w m kl)
  (hK : ∀ (w' : World) (b : Nat) (v : Value) (kl' : List ((Int × Int) × Value)),MapF encT w' m kl' k b→(∀ k',alook k' kl' = if k' = k then some ((alook k kl).getD (.int .i64 0)) else alook k' kl)→w.grownBy w' (some m)→w'.heap.size = w.heap.size→K (a.put op.dst (.tuple #[v,goInt (b : Int)])) w') : op.wp Tryz.prog a w K Q:=by
 obtain ⟨w',b,v,kl',hr,h1,h2,h3,h4,h5,h6⟩:=h.entryX keyT Tryz.underlying227 (.int .i64 0) zero_int k
 refine wp_ranv (w':=w') (.tuple #[v,goInt (b : Int)]) ?_ (hK w' b v kl' h1 h2 h5 h6)
 unfold execOp
 rw [ho]
 simp only [hx,hy]
 simp [hr,Result.andThen]
theorem wp_estT {op : Oper} {a : Act} {K : Act→World→Prop} {Q : Exit→Act→World→Prop} (x y z : Operand) (ho : op.op = .entryStore 227 x y z) (m b : Nat) (k : Int × Int) (v : Value) (hx : a.eval x = .map (some m)) (hy : a.eval y = goInt (b : Int)) (hz : a.eval z = v) {w : World} {kl : List ((Int × Int) × Value)} (h : MapF encT w m kl k b)
  (hK : ∀ (w' : World) (kl' : List ((Int × Int) × Value)),kl' = aput k v kl→MapB encT w' m kl'→w.grownBy w' (some m)→w'.heap.size = w.heap.size→K (a.put op.dst undef) w') : op.wp Tryz.prog a w K Q:=by
 obtain ⟨w',hr,h1,h2,h3,h4,h5⟩:=h.store (P:=Tryz.prog) 227 v
 refine wp_rans (w':=w') ?_ (hK w' _ rfl h1 h4 h5)
 unfold execOp
 rw [ho]
 simp only [hx,hy,hz]
 simp [hr,Result.andThen]
theorem mb_ne_row {κ : Type} {enc : κ→Value} {w : World} {m base n size : Nat} {e : TypeId} {v : Value} {xs : List Value} {l : List (κ × Value)} (h : MapB enc w m l) (ho : w.ownsRow base e size v n xs) : some m ≠ v.ownBlock:=by
 obtain ⟨es,c,h1,_⟩:=h
 rcases ho.2 with ⟨rfl,_⟩ | ⟨g,cap,cur,rfl,_,hh,_⟩
 ·simp [Value.ownBlock]
 ·intro he
  have : m = g:=by simpa [Value.ownBlock] using he
  subst this
  rw [h1] at hh
  cases hh
theorem mb_ne_blk {κ : Type} {enc : κ→Value} {w : World} {m g t : Nat} {cs : Array Value} {l : List (κ × Value)} (h : MapB enc w m l) (hB : Blk w g t cs) : m ≠ g:=by
 obtain ⟨es,c,h1,_⟩:=h
 rintro rfl
 unfold Blk at hB
 rw [h1] at hB
 cases hB
theorem spF_mem {s : Nat} {p : Nm} {l : List Vt} {x : Vt} (h : x ∈ spF s p l) : x ∈ l∧x.slot = (s : Int)∧x.parent = p:=by
 obtain ⟨h1,h2⟩:=List.mem_filter.1 h
 rw [Bool.and_eq_true,decide_eq_true_eq,decide_eq_true_eq] at h2
 exact ⟨h1,h2⟩
theorem spF_next {s : Nat} {p : Nm} {l : List Vt} {i : Nat} {x : Vt} (hx : l[i]? = some x) : spF s p (l.take (i + 1)) = spF s p (l.take i) ++ if (decide (x.slot = (s : Int)) && decide (x.parent = p)) = true then [x] else []:=by
 unfold spF
 rw [List.take_add_one,hx,Option.toList_some,List.filter_append]
 simp only [List.filter_cons,List.filter_nil]
theorem spF_hit {s : Nat} {p : Nm} {l : List Vt} {i : Nat} {x : Vt} (hx : l[i]? = some x) (h1 : x.slot = (s : Int)) (h2 : x.parent = p) : spF s p (l.take (i + 1)) = spF s p (l.take i) ++ [x]:=by
 rw [spF_next hx,if_pos (by simp [h1,h2])]
theorem spF_miss {s : Nat} {p : Nm} {l : List Vt} {i : Nat} {x : Vt} (hx : l[i]? = some x) (h1 : ¬ (x.slot = (s : Int)∧x.parent = p)) : spF s p (l.take (i + 1)) = spF s p (l.take i):=by
 rw [spF_next hx,if_neg (by simpa using h1),List.append_nil]
def OwB (s : Nat) (p : Nm) (f : Int) (l : List Vt) (n : Nat) (kl : List ((Int × Int) × Value)) : Prop :=
 ∀ k r,∃ z : Nat,(alook (k,r) kl).getD (.int .i64 0) = .int .i64 (z : Int)∧z≤n∧decide (0 < z) = owF s p f l k r
theorem OwB.nil (s : Nat) (p : Nm) (f : Int) : OwB s p f [] 0 []:=fun _ _ => ⟨0,rfl,Nat.le_refl _,rfl⟩
theorem OwB.miss {s : Nat} {p : Nm} {f : Int} {l : List Vt} {i : Nat} {x : Vt} {kl : List ((Int × Int) × Value)} (h : OwB s p f (l.take i) i kl) (hx : l[i]? = some x) (h1 : ¬ (x.slot = (s : Int)∧x.parent = p)) : OwB s p f (l.take (i + 1)) (i + 1) kl:=fun k r => by
 obtain ⟨z,a1,a2,a3⟩:=h k r
 refine ⟨z,a1,by omega,?_⟩
 rw [a3]
 unfold owF
 rw [spF_miss hx h1]
theorem OwB.other {s : Nat} {p : Nm} {f : Int} {l : List Vt} {i : Nat} {x : Vt} {kl : List ((Int × Int) × Value)} (h : OwB s p f (l.take i) i kl) (hx : l[i]? = some x) (h1 : x.slot = (s : Int)) (h2 : x.parent = p) (h3 : ¬ x.signer = f) : OwB s p f (l.take (i + 1)) (i + 1) kl:=fun k r => by
 obtain ⟨z,a1,a2,a3⟩:=h k r
 refine ⟨z,a1,by omega,?_⟩
 rw [a3]
 unfold owF
 rw [spF_hit hx h1 h2,List.any_append]
 simp [h3]
theorem OwB.hit {s : Nat} {p : Nm} {f : Int} {l : List Vt} {i z : Nat} {x : Vt} {kl kl5 kl6 : List ((Int × Int) × Value)} (h : OwB s p f (l.take i) i kl) (hx : l[i]? = some x) (h1 : x.slot = (s : Int)) (h2 : x.parent = p) (h3 : x.signer = f) (hz : (alook (x.kind,x.round) kl).getD (.int .i64 0) = .int .i64 (z : Int))
  (h5 : ∀ k',alook k' kl5 = if k' = (x.kind,x.round) then some ((alook (x.kind,x.round) kl).getD (.int .i64 0)) else alook k' kl) (h6 : kl6 = aput (x.kind,x.round) (.int .i64 ((z + 1 : Nat) : Int)) kl5) : OwB s p f (l.take (i + 1)) (i + 1) kl6:=fun k r => by
 have e : owF s p f (l.take (i + 1)) k r = (owF s p f (l.take i) k r || (decide (x.kind = k) && decide (x.round = r))):=by
  unfold owF
  rw [spF_hit hx h1 h2,List.any_append]
  simp [h3]
 rw [e,h6,alook_aput]
 obtain ⟨z',a1,a2,a3⟩:=h k r
 by_cases hk : (k,r) = (x.kind,x.round)
 ·rw [if_pos hk,Option.getD_some]
  injection hk with hk1 hk2
  subst hk1; subst hk2
  rw [a1] at hz
  simp only [Value.int.injEq,true_and] at hz
  exact ⟨z + 1,rfl,by omega,by simp⟩
 ·rw [if_neg hk,h5,if_neg hk]
  have : (decide (x.kind = k) && decide (x.round = r)) = false:=by
   rw [Bool.and_eq_false_iff,decide_eq_false_iff_not,decide_eq_false_iff_not]
   by_cases hk1 : x.kind = k
   ·refine .inr fun hr => hk (by rw [hk1,hr])
   ·exact .inl hk1
  rw [this,Bool.or_false]
  exact ⟨z',a1,by omega,a3⟩
theorem run_buildVr {o : Oper} {a : Act} (M q s f : Int) (p : Nm) (mo : Nat) (x0 x1 x2 x3 x4 x6 : Operand) (ho : o.op = .build 229 #[(0,x0),(1,x1),(2,x2),(3,x3),(4,x4),(6,x6)])
  (h0 : a.eval x0 = .int .i64 M) (h1 : a.eval x1 = I q) (h2 : a.eval x2 = I s) (h3 : a.eval x3 = I f) (h4 : a.eval x4 = .agg p.cells) (h6 : a.eval x6 = .map (some mo)) (w : World) :
  (execOp a.eval o).run Tryz.prog w = .ok (.value (.agg (vrCells M q s f p none 0 0 mo))) w:=by
 unfold execOp
 rw [ho]
 simp only [List.map_toArray,List.map_cons,List.map_nil,h0,h1,h2,h3,h4,h6]
 go_simp
end
end Go.Proofs.YtadllffeoibelaaGreat
