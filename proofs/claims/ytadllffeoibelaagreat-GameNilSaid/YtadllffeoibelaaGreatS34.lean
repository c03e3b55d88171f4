/-
  What these parts of the proof come to, functions walked and plain laws: Jus7, Acc3, Out5, BrS2, NmKey. No condition.
-/
import Derived.Test.YtadllffeoibelaaGreatS27
import Derived.Test.YtadllffeoibelaaGreatS32
import Derived.Deep.DeepCutAuto
import Derived.ScopeJumps
import Derived.Test.YtadllffeoibelaaGreatS9
import Derived.Test.YtadllffeoibelaaGreatS33
import Derived.Test.YtadllffeoibelaaGreatS12
import Derived.Test.YtadllffeoibelaaGreatS28
namespace Go.Proofs.YtadllffeoibelaaGreat
section
open Go.RowKit Go.Shelf
attribute [local go_sem ↓] Go.wp_at_zero Go.wp_at_succ loadNm loadVt loadSg loadEv
attribute [local go_sem] runNm runVt runSg runEv pickRow_some rowAt_drew rowAt_drewN
set_option maxRecDepth 100000 in
set_option maxHeartbeats 1000000 in
theorem allow_no (M : Int) (nC : Nat) (A : Option Addr) (c : Nat) (v : Vt) (w : World) (hv : ValidP v) (hk : ¬ v.kind≤4) :
  Calls Tryz.prog 167 #[.int .i64 M,v.val,.slice A nC c] w fun e w' => e = .returned (.bool false)∧Below w.heap.size w w':=by
 obtain ⟨W1,hW1⟩ : ∃ W1,W1 = w.alloc (Obj.cells v.cells 46):=⟨_,rfl⟩
 have hbw1 : Below w.heap.size w W1:=by rw [hW1]; exact (Below.refl _ _).alloc (Nat.le_refl _) _
 have hBv : Blk W1 w.heap.size 46 v.cells:=by rw [hW1]; exact Blk.new _ _ _
 have hs1 : W1.heap.size = w.heap.size + 1:=by rw [hW1]; simp
 have HVal : Hid (∀ W,Calls Tryz.prog 49 #[v.val] W (BoolPost W true)):=fun W => by
  have h:=valid_any v W ⟨by have:=hv.2.2.2.1; omega,by have:=hv.2.2.2.1; omega⟩
  rwa [decide_eq_true hv] at h
 have HF1 : Hid (∀ W,Below W1.heap.size W1 W→rowAt W w.heap.size 0 22 = some v.cells∧W.cell? ⟨w.heap.size,0,none⟩ = some (I v.kind)):=fun W hW => ⟨(hBv.below hW (by omega)).row 22 rfl,(hBv.below hW (by omega)).cell 0⟩
 have dk : decide (v.kind > 4) = true:=by simp; omega
 have HW:=Lib.hid hW1
 have HB1:=Lib.hid hbw1
 clear hW1 hbw1 hBv hv hk hs1
 go_enter Tryz.func167,Tryz.ntmps167
 go_upto_region 1 with fail
 simp only [← HW.out]
 have hcur : Below W1.heap.size W1 W1:=Below.refl _ _
 obtain ⟨x0,y0⟩:=HF1.out _ hcur
 go_wp2_with (go_at_call 49; refine (HVal.out _).mono ?_; rintro en wa ⟨rfl,hba⟩; replace hcur:=hcur.trans (hba.mono hcur.size); obtain ⟨x0,y0⟩:=HF1.out _ hcur; clear HVal)
 go_ret
 exact ⟨rfl,HB1.out.trans (hcur.mono HB1.out.size)⟩
def AllowK (M : Int) (q : Nat) (v : Vt) (C : List Vt) (b : Bool) : Prop:=(b = true→v.kind≤4)∧(v.kind≤4→AllowR M q v C b)
theorem allowK_any (M : Int) (nC : Nat) (A : Option Addr) (c : Nat) (C : List Vt) (v : Vt) (w : World) (hn : C.length = nC) (hr : Rd w w.heap.size A (C.flatMap vtc)) (hC : ∀ s ∈ C,CountP M v s) (hsm : nC≤1000000)
  (hv : ValidP v) (hsl : (xOf M).testBit v.slot.toNat = true) :
  Calls Tryz.prog 167 #[.int .i64 M,v.val,.slice A nC c] w fun e w' => ∃ b,e = .returned (.bool b)∧Below w.heap.size w w'∧AllowK M (quoF (popF (xOf M) 10)) v C b:=by
 by_cases hk : v.kind≤4
 ·exact (allowed_any M nC A c C v w hn hr hC hsm hv hk hsl).mono fun e w' ⟨b,h1,h2,h3⟩ => ⟨b,h1,h2,fun _ => hk,fun _ => h3⟩
 ·exact (allow_no M nC A c v w hv hk).mono fun e w' ⟨h1,h2⟩ => ⟨false,h1,h2,fun h => (by cases h),fun h => absurd h hk⟩
end
section
open Go.RowKit
attribute [local go_sem ↓] Go.wp_at_zero Go.wp_at_succ loadNm loadVt loadSg loadEv
attribute [local go_sem] runNm runVt runSg runEv pickRow_some rowAt_drew rowAt_drewN
set_option maxRecDepth 100000 in
set_option maxHeartbeats 8000000 in
theorem accA_any (M : Int) (p : Nm) (A : Option Addr) (n c : Nat) (l : List Vt) (s : Int) (w0 : World) (hn : l.length = n) (hr : Rd w0 w0.heap.size A (l.flatMap vtc)) (hsm : n≤1000000) (hl : ∀ v ∈ l,ValidP v∧v.slot = s) (hs : (xOf M).testBit s.toNat = true) :
  Calls Tryz.prog 114 #[.int .i64 M,p.val,.slice A n c] w0 fun e w' => ∃ (v : Value) (O : List Vt),e = .returned v∧AccO M p s l O∧O.length≤n∧w'.ownsRow w0.heap.size 46 22 v O.length (O.flatMap vtc)∧Below w0.heap.size w0 w':=by
 obtain ⟨wa,hwa⟩ : ∃ wa,wa = w0.alloc (.cells p.cells 24):=⟨_,rfl⟩
 have hba : Below w0.heap.size w0 wa:=by rw [hwa]; exact (Below.refl _ _).alloc (Nat.le_refl _) _
 have y1 : rowAt wa w0.heap.size 0 8 = some p.cells:=by rw [hwa]; exact (Blk.new w0 _ _).row 8 rfl
 have hsa : wa.heap.size = w0.heap.size + 1:=by rw [hwa]; simp
 have HAsc:=Lib.hid (asc_any p A n c l wa hn ((hr.below hba).more hba.size) hsm)
 have HL:=Lib.hid hl
 have HS:=Lib.hid hs
 have HWa:=Lib.hid hwa
 clear hn hr hl hs hwa
 go_enter Tryz.func114,Tryz.ntmps114
 go_wp2
 go_step3
 go_wp2
 go_step3
 simp only [← HWa.out]
 go_wp2_with fail
 refine HAsc.out.mono ?_
 rintro en w ⟨v0,D,rfl,hD,hDn,hownD,hbD⟩
 have HD : Hid (∀ x ∈ D,x ∈ l∧(ValidP x∧x.slot = s)∧x.parent = p):=fun x hx => ⟨(hD x hx).1,HL.out x (hD x hx).1,(hD x hx).2⟩
 obtain ⟨A1,c1,rfl,hR1⟩ : ∃ A1 c1,v0 = .slice A1 D.length c1∧Rd w w.heap.size A1 (D.flatMap vtc):=by
  rcases hownD.2 with ⟨rfl,h0⟩ | ⟨g,cap,cur,rfl,_⟩
  ·exact ⟨none,0,by rw [h0],.inl (List.eq_nil_of_length_eq_zero (by rw [hownD.1,h0,Nat.zero_mul]))⟩
  ·exact ⟨_,cap,rfl,Rd.of_own hownD⟩
 obtain ⟨m,hm⟩ : ∃ m,D.length = m:=⟨_,rfl⟩
 rw [hm] at hDn ⊢
 have HM:=Lib.hid hm
 have HR:=Lib.hid hR1
 have hbw0 : Below w0.heap.size w0 w:=hba.trans (hbD.mono hba.size)
 have hm6 : m≤1000000:=by omega
 clear hm hD hownD hR1 y1 HAsc
 go_wp2
 go_loopw [7,8,15] (fun v fv iv wr => AccRel M p s D w v fv iv wr) (fun _ _ iv _ => m - (intOf iv).toNat)
 case atStart => exact ⟨0,[],rfl,rfl,Nat.zero_le _,Nat.le_refl _,⟨AccW.nil M,fun x hx => by cases hx⟩,⟨by simp,.inl ⟨rfl,rfl⟩⟩,Below.refl _ _,.inl ⟨rfl,rfl⟩⟩
 case round =>
  obtain ⟨i,O,rfl,rfl,hin,hOi,hO,hown,hbw,hnil⟩:=hrel
  rw [HM.out] at hin
  have HO:=Lib.hid hO
  have HOwn:=Lib.hid hown
  clear hO hown
  have hO6 : O.length≤1000000:=by omega
  by_cases hi : i < m
  ·have di : decide ((i : Int) < (m : Int)) = true:=by simp; omega
   obtain ⟨x,hx⟩ : ∃ x,D[i]? = some x:=⟨_,List.getElem?_eq_getElem (by rw [HM.out]; exact hi)⟩
   obtain ⟨b,o,rfl,hb,hcell⟩:=HR.out.cells (by intro e; have:=flat_length vtc 22 D (vtc_len D); rw [e,HM.out] at this; simp at this; omega)
   clear hcell
   have x1 : rowAt wr b (o + i * 22) 22 = some x.cells:=(HR.out.below hbw).voteRow hx
   have HX:=Lib.hid (HD.out x (List.mem_of_getElem? hx))
   have HXD:=Lib.hid (List.mem_of_getElem? hx)
   clear hx
   rcases hnil with ⟨rfl,rfl⟩ | hpos
   ·go_upto_region 6 with (refine wpList_store_blk rfl 46 (.tmp 10) (.tmp 18) rfl wr.heap.size x.cells rfl rfl 46 zeroV.cells (Blk.new wr _ _) (by rfl) (by kernel_rfl) (fun u hu => one_vt x hu) ?_; intro w4 hB4 hg4 hsz4)
    have HOwn4 : Hid (w4.ownsRow w.heap.size 46 22 (.slice none 0 0) 0 (([] : List Vt).flatMap vtc)):=own_kept (HOwn.out.alloc _) hg4 (fun k hk => by
     injection hk with hk
     subst hk
     right
     intro e
     have:=(HOwn.out.lt _ e).2
     omega)
    have hbw4 : Below w.heap.size w w4:=(hbw.alloc hbw.size _).grown hg4 (Nat.le_trans hbw.size (by simp)) (fun k hk => by injection hk with hk; subst hk; exact hbw.size)
    have hw4 : w4.heap.size = wr.heap.size + 1:=by rw [hsz4]; simp
    obtain ⟨z,hz⟩ : ∃ z,z = wr.heap.size:=⟨_,rfl⟩
    rw [← hz] at hB4 hw4 ⊢
    have x3 : rowAt w4 z 0 22 = some x.cells:=hB4.row 22 rfl
    have x4 : w4.cell? ⟨z,1,none⟩ = some (.int .i64 x.slot):=hB4.cell 1
    have hz4 : z < w4.heap.size:=by omega
    have HRv : Hid (∀ V,Below w4.heap.size w4 V→rowAt V z 0 22 = some x.cells):=fun V hV => (hB4.below hV hz4).row 22 rfl
    clear hg4 hsz4 x1 HOwn hz hw4
    clear hB4
    try go_frame
    go_cut [32] (fun bv wx => bv = .bool false∧∃ k,wx = w4.drewN k)
    case first =>
     refine rgD (fun _ => True) (trivial) fun hHeld => ?_
     refine tkD 19 0 ?_
     go_frame
     refine tkD 20 1 ?_
     go_frame
     refine tkD 21 2 ?_
     go_frame
     refine tkD 22 3 ?_
     go_frame
     refine tkD 23 4 ?_
     go_frame
     refine skD 24 5 ?_
     go_frame
     refine skD 25 6 ?_
     go_frame
     refine skD 26 7 ?_
     go_frame
     refine skD 27 8 ?_
     go_frame
     refine skD 28 9 ?_
     go_frame
     refine skD 29 10 ?_
     go_frame
     refine skD 30 11 ?_
     go_frame
     refine skD 31 12 ?_
     go_frame
     refine tkD 32 13 ?_
     go_frame
     refine dnD ?_
     go_wp2_with fail
     go_meet
     exact ⟨rfl,1,rfl⟩
    case rest =>
     obtain ⟨rfl,k,rfl⟩:=hcut
     have HOwn5 : Hid ((w4.drewN k).ownsRow w.heap.size 46 22 (.slice none 0 0) 0 (([] : List Vt).flatMap vtc)):=HOwn4.out
     have hbw5 : Below w.heap.size w (w4.drewN k):=below_drewN hbw4 k
     have hb45 : Below w4.heap.size w4 (w4.drewN k):=below_drewN (Below.refl _ _) k
     have HRv5 : Hid (∀ V,Below (w4.drewN k).heap.size (w4.drewN k) V→rowAt V z 0 22 = some x.cells):=fun V hV => HRv.out V (hb45.trans (hV.mono hb45.size))
     have hz5 : z < (w4.drewN k).heap.size:=hz4
     clear HOwn4 hbw4 hb45 HRv x3 x4
     generalize w4.drewN k = w5 at *
     have HAl : Hid (∀ V,Below w5.heap.size w5 V→Calls Tryz.prog 167 #[.int .i64 M,x.val,.slice none 0 0] V fun e w' => ∃ b,e = .returned (.bool b)∧Below V.heap.size V w'∧AllowK M (quoF (popF (xOf M) 10)) x ([] : List Vt) b):=fun V hV =>
      allowK_any M 0 none 0 ([] : List Vt) x V rfl Rd.nil (fun t ht => ⟨(HO.out.2 t ht).2.1.1,(HO.out.2 t ht).2.1.2.1,((HO.out.2 t ht).2.2.1).trans HX.out.2.2.symm,((HO.out.2 t ht).2.1.2.2).trans HX.out.2.1.2.symm,(HO.out.2 t ht).2.2.2⟩) (by omega)
       HX.out.2.1.1 (by rw [HX.out.2.1.2]; exact HS.out)
     have x6 : rowAt w5 z 0 22 = some x.cells:=HRv5.out w5 (Below.refl _ _)
     have hbx : Below w5.heap.size w5 w5:=Below.refl _ _
     go_wp2_with fail
     refine rgD (fun w' => rowAt w' z 0 22 = some x.cells) (HRv5.out _ hbx.drew) fun hHeld => ?_
     refine tkD 35 0 ?_
     go_frame
     refine tkD 36 1 ?_
     go_frame
     refine tkD 37 2 ?_
     go_frame
     refine tkD 38 3 ?_
     go_frame
     refine tkD 39 4 ?_
     go_frame
     refine rd1 5 fun K hK => ?_
     go_simp
     refine (HAl.out _ hbx.drew).mono ?_; rintro en w6 ⟨r,rfl,hb6,hal⟩; have hb56:=hbx.drew.trans (hb6.mono (Nat.le_refl _)); have HAL:=Lib.hid hal; clear hal
     go_wp2_with fail
     refine hK.out _ _ (HRv5.out _ hb56) (fun hHeld => ?_)
     clear hK K
     try go_frame
     refine tkD 41 6 ?_
     go_frame
     refine dnD ?_
     have hbw6 : Below w.heap.size w w6:=hbw5.trans (hb56.mono hbw5.size)
     have HOwn6 : Hid (w6.ownsRow w.heap.size 46 22 (.slice none 0 0) 0 (([] : List Vt).flatMap vtc)):=own_below HOwn5.out hb56 (Nat.le_refl _)
     have x7 : rowAt w6 z 0 22 = some x.cells:=HRv5.out _ hb56
     clear HOwn5 hbw5 HAl HRv5 hb56 hb6 x6 hbx
     cases r with
     | false =>
      go_wp2
      go_roundw
      case rel => exact ⟨i + 1,([] : List Vt),by go_num,rfl,by rw [HM.out]; omega,by simp,HO.out,HOwn6.out,hbw6,.inl ⟨rfl,rfl⟩⟩
      case measure => simp [intOf]; omega
     | true =>
      go_wp2_with ((first
       | (refine wpList_build1 rfl 56 46 (.tmp 43) rfl x.cells rfl Tryz.underlying56 (by kernel_rfl) (by decide) (by decide) ?_)
       | (at_builtin; refine wpList_app rfl (.tmp 42) (.tmp 44) _ rfl w.heap.size 46 (.agg zeroV.cells) 22 64 Tryz.underlying56 info_vote rfl (by decide) (.slice none 0 0) 0 (([] : List Vt).flatMap vtc) rfl ?r0 (w6.heap.size + 1) (some ⟨w6.heap.size,0,none⟩) 1 1 (vtc x) rfl ?r1 ?r2 ?r3 ?r4 ?r5 ?r6 ?_)))
      case r0 => exact HOwn6.out.alloc _
      case r1 => rfl
      case r2 => exact Rd.mk (by omega) (fun j u hu => by rw [Nat.zero_add,(Blk.new w6 _ _).cell]; simpa using hu)
      case r3 => exact fun u hu => one_vt x hu
      case r4 => omega
      case r5 => unfold maxLen; omega
      case r6 => have:=hbw6.size; simp; omega
      intro v7 w7 hown7 hg7 hat7
      have hbw7 : Below w.heap.size w w7:=below_own (hbw6.alloc hbw6.size _) (HOwn6.out.alloc _) hg7
      have HOwn7:=Lib.hid hown7
      clear hown7 hg7 hat7 x7 HOwn6
      go_wp2
      go_roundw
      case rel =>
       refine ⟨i + 1,([] : List Vt) ++ [x],by go_num,rfl,by rw [HM.out]; omega,by rw [List.length_append]; simp,⟨HO.out.1.snoc (HAL.out.2 (HAL.out.1 rfl)),?_⟩,?_,hbw7,.inr (by rw [List.length_append]; simp)⟩
       ·intro t ht
        rcases List.mem_append.1 ht with ht | ht
        ·exact HO.out.2 t ht
        ·rw [List.mem_singleton.1 ht]; exact ⟨HXD.out,⟨HX.out.2.1.1,HAL.out.1 rfl,HX.out.2.1.2⟩,HX.out.2.2,allow_mem (HAL.out.2 (HAL.out.1 rfl))⟩
       ·have h:=HOwn7.out
        rw [List.length_append,List.flatMap_append]
        simpa using h
      case measure => simp [intOf]; omega
   ·obtain ⟨g,cap,T,rfl,hg,hblk,hcap⟩ : ∃ g cap T,u7 = .slice (some ⟨g,0,none⟩) O.length cap∧w.heap.size≤g∧Blk wr g 46 (O.flatMap vtc ++ T).toArray∧O.length≤cap:=by
     rcases own_tail HOwn.out with ⟨_,h0,_⟩ | h
     ·omega
     ·exact h
    go_upto_region 6 with (refine wpList_store_blk rfl 46 (.tmp 10) (.tmp 18) rfl wr.heap.size x.cells rfl rfl 46 zeroV.cells (Blk.new wr _ _) (by rfl) (by kernel_rfl) (fun u hu => one_vt x hu) ?_; intro w4 hB4 hg4 hsz4)
    have HOwn4 : Hid (w4.ownsRow w.heap.size 46 22 (.slice (some ⟨g,0,none⟩) O.length cap) O.length (O.flatMap vtc)):=own_kept (HOwn.out.alloc _) hg4 (fun k hk => by
     injection hk with hk
     subst hk
     right
     intro e
     have:=(HOwn.out.lt _ e).2
     omega)
    have hbw4 : Below w.heap.size w w4:=(hbw.alloc hbw.size _).grown hg4 (Nat.le_trans hbw.size (by simp)) (fun k hk => by injection hk with hk; subst hk; exact hbw.size)
    have hw4 : w4.heap.size = wr.heap.size + 1:=by rw [hsz4]; simp
    obtain ⟨z,hz⟩ : ∃ z,z = wr.heap.size:=⟨_,rfl⟩
    rw [← hz] at hB4 hw4 ⊢
    have x3 : rowAt w4 z 0 22 = some x.cells:=hB4.row 22 rfl
    have x4 : w4.cell? ⟨z,1,none⟩ = some (.int .i64 x.slot):=hB4.cell 1
    have hz4 : z < w4.heap.size:=by omega
    have HRv : Hid (∀ V,Below w4.heap.size w4 V→rowAt V z 0 22 = some x.cells):=fun V hV => (hB4.below hV hz4).row 22 rfl
    clear hsz4 x1 HOwn hz hw4
    have HG4 : Hid (Blk w4 g 46 (O.flatMap vtc ++ T).toArray):=(hblk.alloc _).kept hg4 (by intro e; injection e with e; have:=hblk.lt; omega)
    clear hg4 hblk
    obtain ⟨y,hy⟩ : ∃ y,O[0]? = some y:=⟨_,List.getElem?_eq_getElem hpos⟩
    have hysl : y.slot = x.slot:=((HO.out.2 y (List.mem_of_getElem? hy)).2.1.2.2).trans HX.out.2.1.2.symm
    have x5 : w4.cell? ⟨g,1,none⟩ = some (.int .i64 x.slot):=by
     have h:=row_cell (c:=⟨vtc,T⟩) (m:=22) (fun _ => rfl) HG4.out 0 1 y (.int .i64 y.slot) hy rfl
     rw [← hysl]
     simpa using h
    have hgz : g < w4.heap.size:=HG4.out.lt
    clear hy hysl
    clear hB4
    have dl : decide (0 < (O.length : Int)) = true:=by simp; omega
    have dn : (x.slot != x.slot) = false:=by simp
    have HX45 : Hid (w4.cell? ⟨z,1,none⟩ = some (.int .i64 x.slot)∧w4.cell? ⟨g,1,none⟩ = some (.int .i64 x.slot)):=⟨x4,x5⟩
    obtain ⟨nO,hnO⟩ : ∃ nO,O.length = nO:=⟨_,rfl⟩
    rw [hnO] at hcap dl hO6 hpos hOi ⊢
    have dl2 : decide (0 < nO) = true:=by simp; omega
    have HNO:=Lib.hid hnO
    clear hnO
    try go_frame
    go_cut [32] (fun bv wx => bv = .bool false∧∃ k,wx = w4.drewN k)
    case first =>
     refine rgD (fun w' => w'.cell? ⟨z,1,none⟩ = some (.int .i64 x.slot)∧w'.cell? ⟨g,1,none⟩ = some (.int .i64 x.slot)) (HX45.out) fun hHeld => ?_
     refine tkD 19 0 ?_
     go_frame
     refine tkD 20 1 ?_
     go_frame
     refine tkD 21 2 ?_
     go_frame
     refine tkD 22 3 ?_
     go_frame
     refine tkD 23 4 ?_
     go_frame
     refine tkD 24 5 ?_
     go_frame
     refine tkD 25 6 ?_
     go_frame
     refine tkD 26 7 ?_
     go_frame
     refine tkD 27 8 ?_
     go_frame
     refine tkD 28 9 ?_
     go_frame
     refine tkD 29 10 ?_
     go_frame
     refine tkD 30 11 ?_
     go_frame
     refine tkD 31 12 ?_
     go_frame
     refine tkD 32 13 ?_
     go_frame
     refine dnD ?_
     go_wp2_with fail
     go_meet
     exact ⟨rfl,1,rfl⟩
    case rest =>
     obtain ⟨rfl,k,rfl⟩:=hcut
     have HOwn5 : Hid ((w4.drewN k).ownsRow w.heap.size 46 22 (.slice (some ⟨g,0,none⟩) O.length cap) O.length (O.flatMap vtc)):=HOwn4.out
     have hbw5 : Below w.heap.size w (w4.drewN k):=below_drewN hbw4 k
     have hb45 : Below w4.heap.size w4 (w4.drewN k):=below_drewN (Below.refl _ _) k
     have HRv5 : Hid (∀ V,Below (w4.drewN k).heap.size (w4.drewN k) V→rowAt V z 0 22 = some x.cells):=fun V hV => HRv.out V (hb45.trans (hV.mono hb45.size))
     have hz5 : z < (w4.drewN k).heap.size:=hz4
     clear HOwn4 hbw4 hb45 HRv x3 x4
     clear HG4 x5 HX45 hgz
     generalize w4.drewN k = w5 at *
     have HAl : Hid (∀ V,Below w5.heap.size w5 V→Calls Tryz.prog 167 #[.int .i64 M,x.val,.slice (some ⟨g,0,none⟩) nO cap] V fun e w' => ∃ b,e = .returned (.bool b)∧Below V.heap.size V w'∧AllowK M (quoF (popF (xOf M) 10)) x O b):=fun V hV =>
      allowK_any M nO (some ⟨g,0,none⟩) cap O x V HNO.out ((Rd.of_own (HNO.out ▸ HOwn5.out)).below hV |>.more hV.size) (fun t ht => ⟨(HO.out.2 t ht).2.1.1,(HO.out.2 t ht).2.1.2.1,((HO.out.2 t ht).2.2.1).trans HX.out.2.2.symm,((HO.out.2 t ht).2.1.2.2).trans HX.out.2.1.2.symm,(HO.out.2 t ht).2.2.2⟩) (by omega)
       HX.out.2.1.1 (by rw [HX.out.2.1.2]; exact HS.out)
     have x6 : rowAt w5 z 0 22 = some x.cells:=HRv5.out w5 (Below.refl _ _)
     have hbx : Below w5.heap.size w5 w5:=Below.refl _ _
     go_wp2_with fail
     refine rgD (fun w' => rowAt w' z 0 22 = some x.cells) (HRv5.out _ hbx.drew) fun hHeld => ?_
     refine tkD 35 0 ?_
     go_frame
     refine tkD 36 1 ?_
     go_frame
     refine tkD 37 2 ?_
     go_frame
     refine tkD 38 3 ?_
     go_frame
     refine tkD 39 4 ?_
     go_frame
     refine rd1 5 fun K hK => ?_
     go_simp
     refine (HAl.out _ hbx.drew).mono ?_; rintro en w6 ⟨r,rfl,hb6,hal⟩; have hb56:=hbx.drew.trans (hb6.mono (Nat.le_refl _)); have HAL:=Lib.hid hal; clear hal
     go_wp2_with fail
     refine hK.out _ _ (HRv5.out _ hb56) (fun hHeld => ?_)
     clear hK K
     try go_frame
     refine tkD 41 6 ?_
     go_frame
     refine dnD ?_
     have hbw6 : Below w.heap.size w w6:=hbw5.trans (hb56.mono hbw5.size)
     have HOwn6 : Hid (w6.ownsRow w.heap.size 46 22 (.slice (some ⟨g,0,none⟩) O.length cap) O.length (O.flatMap vtc)):=own_below HOwn5.out hb56 (Nat.le_refl _)
     have x7 : rowAt w6 z 0 22 = some x.cells:=HRv5.out _ hb56
     clear HOwn5 hbw5 HAl HRv5 hb56 hb6 x6 hbx
     cases r with
     | false =>
      go_wp2
      go_roundw
      case rel => exact ⟨i + 1,O,by go_num,rfl,by rw [HM.out]; omega,by rw [HNO.out]; omega,HO.out,(by have h:=HOwn6.out; rw [HNO.out] at h ⊢; exact h),hbw6,.inr (by rw [HNO.out]; omega)⟩
      case measure => simp [intOf]; omega
     | true =>
      go_wp2_with ((first
       | (refine wpList_build1 rfl 56 46 (.tmp 43) rfl x.cells rfl Tryz.underlying56 (by kernel_rfl) (by decide) (by decide) ?_)
       | (at_builtin; refine wpList_app rfl (.tmp 42) (.tmp 44) _ rfl w.heap.size 46 (.agg zeroV.cells) 22 64 Tryz.underlying56 info_vote rfl (by decide) (.slice (some ⟨g,0,none⟩) nO cap) nO (O.flatMap vtc) rfl ?r0 (w6.heap.size + 1) (some ⟨w6.heap.size,0,none⟩) 1 1 (vtc x) rfl ?r1 ?r2 ?r3 ?r4 ?r5 ?r6 ?_)))
      case r0 => exact (HNO.out ▸ HOwn6.out.alloc _)
      case r1 => rfl
      case r2 => exact Rd.mk (by omega) (fun j u hu => by rw [Nat.zero_add,(Blk.new w6 _ _).cell]; simpa using hu)
      case r3 => exact fun u hu => one_vt x hu
      case r4 => omega
      case r5 => unfold maxLen; omega
      case r6 => have:=hbw6.size; simp; omega
      intro v7 w7 hown7 hg7 hat7
      have hbw7 : Below w.heap.size w w7:=below_own (hbw6.alloc hbw6.size _) (HOwn6.out.alloc _) hg7
      have HOwn7:=Lib.hid hown7
      clear hown7 hg7 hat7 x7 HOwn6
      go_wp2
      go_roundw
      case rel =>
       refine ⟨i + 1,O ++ [x],by go_num,rfl,by rw [HM.out]; omega,by rw [List.length_append,HNO.out]; simp; omega,⟨HO.out.1.snoc (HAL.out.2 (HAL.out.1 rfl)),?_⟩,?_,hbw7,.inr (by rw [List.length_append]; simp)⟩
       ·intro t ht
        rcases List.mem_append.1 ht with ht | ht
        ·exact HO.out.2 t ht
        ·rw [List.mem_singleton.1 ht]; exact ⟨HXD.out,⟨HX.out.2.1.1,HAL.out.1 rfl,HX.out.2.1.2⟩,HX.out.2.2,allow_mem (HAL.out.2 (HAL.out.1 rfl))⟩
       ·have h:=HOwn7.out
        rw [List.length_append,List.flatMap_append]
        simpa [HNO.out] using h
      case measure => simp [intOf]; omega
  ·have di : decide ((i : Int) < (m : Int)) = false:=by simp; omega
   clear hnil
   go_wp2
   rw [Exit.noGoto_ret]
   go_ret
   exact ⟨u7,O,rfl,⟨HO.out.1,fun y hy => ⟨(HD.out y (HO.out.2 y hy).1).1,(HO.out.2 y hy).2⟩⟩,by omega,own_base HOwn.out hbw0.size,hbw0.trans (hbw.mono hbw0.size)⟩
def SmP (p : Nm) (l : List Vt) : Prop:=(∀ v ∈ l,v.kind≤4∧¬ (v.kind = 4∧v.choice = 2))∧(l.filter fun s => decide (s.parent = p)).length≤12
def AccG (M : Int) (p : Nm) (s : Int) (l O : List Vt) : Prop:=AccO M p s l O∧(SmP p l→O = accF M (ascF p l))
theorem accG_any (M : Int) (p : Nm) (A : Option Addr) (n c : Nat) (l : List Vt) (s : Int) (w0 : World) (hn : l.length = n) (hr : Rd w0 w0.heap.size A (l.flatMap vtc)) (hsm : n≤1000000) (hl : ∀ v ∈ l,ValidP v∧v.slot = s) (hs : (xOf M).testBit s.toNat = true) :
  Calls Tryz.prog 114 #[.int .i64 M,p.val,.slice A n c] w0 fun e w' => ∃ (v : Value) (O : List Vt),e = .returned v∧AccG M p s l O∧O.length≤n∧w'.ownsRow w0.heap.size 46 22 v O.length (O.flatMap vtc)∧Below w0.heap.size w0 w':=by
 by_cases h : SmP p l
 ·exact (accE_any M p A n c l s w0 hn hr hsm (fun v hv => ⟨(hl v hv).1,(h.1 v hv).1,(hl v hv).2⟩) hs (fun v hv => (h.1 v hv).2) h.2).mono fun e w' ⟨v,O,h1,h2,h3,h4⟩ => ⟨v,O,h1,⟨h3,fun _ => h2⟩,h4⟩
 ·exact (accA_any M p A n c l s w0 hn hr hsm hl hs).mono fun e w' ⟨v,O,h1,h3,h4⟩ => ⟨v,O,h1,⟨h3,fun h' => absurd h' h⟩,h4⟩
end
section
open Go.RowKit
def SmO (p : Nm) (l : List Vt) : Prop:=(∀ v ∈ l,¬ (v.kind = 4∧v.choice = 2))∧(l.filter fun s => decide (s.parent = p)).length≤12
def OutG (M : Int) (p : Nm) (s : Nat) (l : List Vt) (L : List Oc) : Prop :=
 ∃ O : List Vt,AccO M p (s : Int) l O∧(∀ o ∈ L,o.slot = (s : Int)∧OutS (xOf M) O o.round o.choice o.value) ∧
  (SmO p l→O = accF M (ascF p (slF s l))∧∀ x ∈ O,x.kind = 4→x.choice ≠ 2→kyO s x ∈ L∨LeftO M s O x)
def OutPostG (M : Int) (p : Nm) (s : Nat) (l : List Vt) (w : World) (e : Ending) (w' : World) : Prop :=
 ∃ (v : Value) (L : List Oc),e = .returned v∧OutG M p s l L∧L.length≤l.length∧w'.ownsRow w.heap.size 142 11 v L.length (L.flatMap occ)∧Below w.heap.size w w'
theorem outG_any (M : Int) (p : Nm) (A : Option Addr) (n c : Nat) (l : List Vt) (s : Nat) (w0 : World) (hn : l.length = n) (hr : Rd w0 w0.heap.size A (l.flatMap vtc)) (hsm : n≤1000000) (hl : ∀ v ∈ l,ValidP v) (hs : (xOf M).testBit s = true) :
  Calls Tryz.prog 79 #[.int .i64 M,p.val,.slice A n c,.int .i64 (s : Int)] w0 (OutPostG M p s l w0):=by
 by_cases h : SmO p l
 ·exact (outE_any M p A n c l s w0 hn hr hsm hl hs h.1 h.2).mono fun e w' ⟨v,L,O,h1,h2,h3,h4,h5,h6⟩ => ⟨v,L,h1,⟨O,h3,h5,fun _ => ⟨h2,h4⟩⟩,h6⟩
 ·exact (out_any M p A n c l s w0 hn hr hsm hl hs).mono fun e w' ⟨v,L,O,h1,h3,h5,h6⟩ => ⟨v,L,h1,⟨O,h3,h5,fun h' => absurd h' h⟩,h6⟩
end
section
open Go.RowKit Go.Shelf
attribute [local go_sem ↓] Go.wp_at_zero Go.wp_at_succ loadNm loadVt loadSg loadEv
attribute [local go_sem] runNm runVt runSg runEv pickRow_some rowAt_drew rowAt_drewN
def slB (s : Nat) (l : List Vt) : List Vt:=l.filter fun x => decide (x.slot = (s : Int))
theorem slB_mem {s : Nat} {l : List Vt} {x : Vt} (h : x ∈ slB s l) : x ∈ l∧x.slot = (s : Int):=by
 have:=List.mem_filter.1 h
 exact ⟨this.1,by simpa using this.2⟩
theorem slB_next {s : Nat} {l : List Vt} {i : Nat} {x : Vt} (hx : l[i]? = some x) : slB s (l.take (i + 1)) = slB s (l.take i) ++ if decide (x.slot = (s : Int)) = true then [x] else []:=by
 unfold slB
 rw [List.take_add_one,hx,Option.toList_some,List.filter_append]
 simp only [List.filter_cons,List.filter_nil]
theorem slB_hit {s : Nat} {l : List Vt} {i : Nat} {x : Vt} (hx : l[i]? = some x) (h1 : x.slot = (s : Int)) : slB s (l.take (i + 1)) = slB s (l.take i) ++ [x]:=by
 rw [slB_next hx,if_pos (by simpa using h1)]
theorem slB_miss {s : Nat} {l : List Vt} {i : Nat} {x : Vt} (hx : l[i]? = some x) (h1 : ¬ x.slot = (s : Int)) : slB s (l.take (i + 1)) = slB s (l.take i):=by
 rw [slB_next hx,if_neg (by simpa using h1),List.append_nil]
def BrRel (l : List Vt) (s : Nat) (w : World) (v iv : Value) (wr : World) : Prop :=
 ∃ (i : Nat) (D : List Vt),iv = .int .i64 (i : Int)∧i≤l.length∧D.length≤i∧D = slB s (l.take i)∧wr.ownsRow w.heap.size 46 22 v D.length (D.flatMap vtc)∧Below w.heap.size w wr
set_option maxRecDepth 100000 in
set_option maxHeartbeats 8000000 in
theorem slots_any (M : Int) (p : Nm) (A : Option Addr) (n c : Nat) (l : List Vt) (s : Nat) (w0 : World) (hn : l.length = n) (hr : Rd w0 w0.heap.size A (l.flatMap vtc)) (hsm : n≤1000000) (hl : ∀ v ∈ l,ValidP v) (hs : (xOf M).testBit s = true) :
  Calls Tryz.prog 277 #[.int .i64 M,p.val,.slice A n c,.int .i64 (s : Int)] w0 fun e w' => ∃ (v : Value) (O : List Vt),e = .returned v∧AccG M p (s : Int) (slB s l) O∧O.length≤n∧w'.ownsRow w0.heap.size 46 22 v O.length (O.flatMap vtc)∧Below w0.heap.size w0 w':=by
 obtain ⟨w,hw⟩ : ∃ wa,wa = w0.alloc (.cells p.cells 24):=⟨_,rfl⟩
 have hb0 : Below w0.heap.size w0 w:=by rw [hw]; exact (Below.refl _ _).alloc (Nat.le_refl _) _
 have hBq : Blk w w0.heap.size 24 p.cells:=by rw [hw]; exact Blk.new w0 _ _
 obtain ⟨q,hq⟩ : ∃ q,q = w0.heap.size:=⟨_,rfl⟩
 have HN:=Lib.hid hn
 have HR:=Lib.hid ((hr.below hb0).more hb0.size)
 have HL:=Lib.hid hl
 have HS:=Lib.hid hs
 have HW:=Lib.hid hw
 rw [← hq] at hBq
 have HBq:=Lib.hid hBq
 have hqw : q < w.heap.size:=hBq.lt
 have HQ:=Lib.hid hq
 clear hn hr hl hs hw hBq hq
 go_enter Tryz.func277,Tryz.ntmps277
 go_upto_region 1 with fail
 simp only [← HW.out,← HQ.out]
 go_wp2
 go_loopw [9,14] (fun v iv wr => BrRel l s w v iv wr) (fun _ iv _ => n - (intOf iv).toNat)
 case atStart => exact ⟨0,[],rfl,Nat.zero_le _,Nat.zero_le _,by simp [slB],⟨by simp,.inl ⟨rfl,rfl⟩⟩,Below.refl _ _⟩
 case round =>
  obtain ⟨i,D,rfl,hin,hDi,hD,hown,hbw⟩:=hrel
  rw [HN.out] at hin
  have HDe:=Lib.hid hD
  have HOwn:=Lib.hid hown
  have hD6 : D.length≤1000000:=by omega
  clear hD hown
  by_cases hi : i < n
  ·have di : decide ((i : Int) < (n : Int)) = true:=by simp; omega
   obtain ⟨x,hx⟩ : ∃ x,l[i]? = some x:=⟨_,List.getElem?_eq_getElem (by rw [HN.out]; exact hi)⟩
   obtain ⟨b,o,rfl,hb,hcell⟩:=HR.out.cells (by intro e; have:=flat_length vtc 22 l (vtc_len l); rw [e,HN.out] at this; simp at this; omega)
   clear hcell
   have x1 : rowAt wr b (o + i * 22) 22 = some x.cells:=(HR.out.below hbw).voteRow hx
   have HXx:=Lib.hid hx
   clear hx
   go_upto_region 5 with (refine wpList_store_blk rfl 46 (.tmp 11) (.tmp 17) rfl wr.heap.size x.cells rfl rfl 46 zeroV.cells (Blk.new wr _ _) (by rfl) (by kernel_rfl) (fun u hu => one_vt x hu) ?_; intro w4 hB4 hg4 hsz4)
   have HOwn4 : Hid (w4.ownsRow w.heap.size 46 22 u9 D.length (D.flatMap vtc)):=own_kept (HOwn.out.alloc _) hg4 (fun k hk => by
    injection hk with hk
    subst hk
    right
    intro e
    have:=(HOwn.out.lt _ e).2
    omega)
   have hbw4 : Below w.heap.size w w4:=(hbw.alloc hbw.size _).grown hg4 (Nat.le_trans hbw.size (by simp)) (fun k hk => by injection hk with hk; subst hk; exact hbw.size)
   obtain ⟨z,hz⟩ : ∃ z,z = wr.heap.size:=⟨_,rfl⟩
   rw [← hz] at hB4 ⊢
   have x3 : rowAt w4 z 0 22 = some x.cells:=hB4.row 22 rfl
   have x4 : w4.cell? ⟨z,1,none⟩ = some (.int .i64 x.slot):=hB4.cell 1
   clear hB4 hg4 hsz4 x1 hz HOwn hbw
   try go_frame
   by_cases h1 : x.slot = (s : Int)
   ·have e1 : (x.slot == (s : Int)) = true:=by rw [h1]; exact beq_self_eq_true _
    have HSl:=Lib.hid h1
    clear h1
    go_wp2_with ((first
     | (refine wpList_build1 rfl 56 46 (.tmp 23) rfl x.cells rfl Tryz.underlying56 (by kernel_rfl) (by decide) (by decide) ?_)
     | (at_builtin; refine wpList_app rfl (.tmp 22) (.tmp 24) _ rfl w.heap.size 46 (.agg zeroV.cells) 22 64 Tryz.underlying56 info_vote rfl (by decide) u9 D.length (D.flatMap vtc) rfl ?r0 (w4.heap.size + 1) (some ⟨w4.heap.size,0,none⟩) 1 1 (vtc x) rfl ?r1 ?r2 ?r3 ?r4 ?r5 ?r6 ?_)))
    case r0 => exact HOwn4.out.alloc _
    case r1 => rfl
    case r2 => exact Rd.mk (by omega) (fun j u hu => by rw [Nat.zero_add,(Blk.new w4 _ _).cell]; simpa using hu)
    case r3 => exact fun u hu => one_vt x hu
    case r4 => omega
    case r5 => unfold maxLen; omega
    case r6 => have:=hbw4.size; simp; omega
    intro v7 w7 hown7 hg7 hat7
    have hbw7 : Below w.heap.size w w7:=below_own (hbw4.alloc hbw4.size _) (HOwn4.out.alloc _) hg7
    have HOwn7:=Lib.hid hown7
    clear hown7 hg7 hat7 x3 x4 HOwn4
    go_wp2
    go_roundw
    case rel =>
     refine ⟨i + 1,D ++ [x],by go_num,by rw [HN.out]; omega,by rw [List.length_append]; simp; omega,?_,?_,hbw7⟩
     ·rw [slB_hit HXx.out HSl.out,← HDe.out]
     ·have h:=HOwn7.out
      rw [List.length_append,List.flatMap_append]
      simpa using h
    case measure => simp [intOf]; omega
   ·have e1 : (x.slot == (s : Int)) = false:=by simpa using h1
    have HSl:=Lib.hid h1
    clear h1
    go_wp2
    go_roundw
    case rel => exact ⟨i + 1,D,by go_num,by rw [HN.out]; omega,by omega,(by rw [slB_miss HXx.out HSl.out]; exact HDe.out),HOwn4.out,hbw4⟩
    case measure => simp [intOf]; omega
  ·have di : decide ((i : Int) < (n : Int)) = false:=by simp; omega
   have hDn : D.length≤n:=by omega
   have hDall : D = slB s l:=by
    have h:=HDe.out
    rw [List.take_of_length_le (by rw [HN.out]; omega)] at h
    exact h
   obtain ⟨A1,c1,hu9,hR1⟩ : ∃ A1 c1,u9 = .slice A1 D.length c1∧Rd wr wr.heap.size A1 (D.flatMap vtc):=by
    rcases HOwn.out.2 with ⟨rfl,h0⟩ | ⟨g,cap,cur,rfl,_⟩
    ·exact ⟨none,0,by rw [h0],.inl (List.eq_nil_of_length_eq_zero (by rw [HOwn.out.1,h0,Nat.zero_mul]))⟩
    ·exact ⟨_,cap,rfl,Rd.of_own HOwn.out⟩
   subst hu9
   have hm : ∀ v ∈ D,v ∈ l∧v.slot = (s : Int):=fun v hv => by rw [hDall] at hv; exact slB_mem hv
   have HAcc:=Lib.hid (accG_any M p A1 D.length c1 D (s : Int) wr rfl hR1 hD6 (fun v hv => ⟨HL.out v (hm v hv).1,(hm v hv).2⟩) (by simpa using HS.out))
   have HDall:=Lib.hid hDall
   have y1 : rowAt wr q 0 8 = some p.cells:=(HBq.out.below hbw hqw).row 8 rfl
   obtain ⟨nD,hnD⟩ : ∃ nD,nD = D.length:=⟨_,rfl⟩
   rw [← hnD] at HAcc hDn ⊢
   clear hDall hm hR1 HOwn hD6 hDi hnD
   go_wp2_with fail
   refine HAcc.out.mono ?_
   rintro en w3 ⟨v3,O,rfl,hO,hOn,hown3,hb3⟩
   have HO : Hid (AccG M p (s : Int) (slB s l) O):=by unfold Hid; rw [← HDall.out]; exact hO
   have HOwn3:=Lib.hid hown3
   have hOn' : O.length≤n:=by omega
   clear hO hown3 y1 HAcc
   go_wp2
   go_ret
   have hbb : Below w0.heap.size w0 wr:=hb0.trans (hbw.mono hb0.size)
   exact ⟨v3,O,rfl,HO.out,hOn',own_base HOwn3.out hbb.size,hbb.trans (hb3.mono hbb.size)⟩
end
section
open Go.RowKit
theorem keyNm : KeyOk Tryz.prog 24 Nm.val where
 desc:=⟨_,Tryz.underlying24,fun _ _ => rfl⟩
 check b k w:=checkNm2 b 9998 k w
 eq a b w:=eqNm a b w 9998
 bits k:=bits_agg 9999 _ (by intro v hv; simp at hv; rcases hv with rfl | rfl | rfl | rfl | rfl | rfl | rfl | rfl <;> simp [Instr.sameBits])
theorem run_lookN {o : Oper} {a : Act} (x y : Operand) (ho : o.op = .lookup 288 x y false) (m : Nat) (k : Nm) (hx : a.eval x = .map (some m)) (hy : a.eval y = k.val) {w : World} {kl : List (Nm × Value)} (h : MapB Nm.val w m kl) :
  (execOp a.eval o).run Tryz.prog w = .ok (.value ((alook k kl).getD (.int .i64 0))) w:=by
 have hr:=h.is.look keyNm Tryz.underlying288 (.int .i64 0) (zero_mask w) k false
 unfold execOp
 rw [ho]
 simp only [hx,hy]
 simp only [Bool.false_eq_true,if_false] at hr
 simp [hr,Result.andThen]
theorem wp_entN {op : Oper} {a : Act} {K : Act→World→Prop} {Q : Exit→Act→World→Prop} (x y : Operand) (ho : op.op = .mapEntry 288 x y) (m : Nat) (k : Nm) (hx : a.eval x = .map (some m)) (hy : a.eval y = k.val) {w : World} {kl : List (Nm × Value)} (h : MapB Nm.val w m kl)
  (hK : ∀ (w' : World) (b : Nat) (v : Value) (kl' : List (Nm × Value)),MapF Nm.val w' m kl' k b→(∀ k',alook k' kl' = if k' = k then some ((alook k kl).getD (.int .i64 0)) else alook k' kl)→Upd k (.int .i64 0) kl kl'→kl'.length≤kl.length + 1→w.grownBy w' (some m)→w'.heap.size = w.heap.size→K (a.put op.dst (.tuple #[v,goInt (b : Int)])) w') : op.wp Tryz.prog a w K Q:=by
 obtain ⟨w',b,v,kl',hr,h1,h2,h3,h4,h5,h6⟩:=h.entryX keyNm Tryz.underlying288 (.int .i64 0) zero_mask k
 refine wp_ranv (w':=w') (.tuple #[v,goInt (b : Int)]) ?_ (hK w' b v kl' h1 h2 h3 h4 h5 h6)
 unfold execOp
 rw [ho]
 simp only [hx,hy]
 simp [hr,Result.andThen]
theorem wp_estN {op : Oper} {a : Act} {K : Act→World→Prop} {Q : Exit→Act→World→Prop} (x y z : Operand) (ho : op.op = .entryStore 288 x y z) (m b : Nat) (k : Nm) (v : Value) (hx : a.eval x = .map (some m)) (hy : a.eval y = goInt (b : Int)) (hz : a.eval z = v) {w : World} {kl : List (Nm × Value)} (h : MapF Nm.val w m kl k b)
  (hK : ∀ (w' : World) (kl' : List (Nm × Value)),kl' = aput k v kl→MapB Nm.val w' m kl'→Upd k v kl kl'→kl'.length = kl.length→w.grownBy w' (some m)→w'.heap.size = w.heap.size→K (a.put op.dst undef) w') : op.wp Tryz.prog a w K Q:=by
 obtain ⟨w',hr,h1,h2,h3,h4,h5⟩:=h.store (P:=Tryz.prog) 288 v
 refine wp_rans (w':=w') ?_ (hK w' _ rfl h1 h2 h3 h4 h5)
 unfold execOp
 rw [ho]
 simp only [hx,hy,hz]
 simp [hr,Result.andThen]
end
end Go.Proofs.YtadllffeoibelaaGreat
