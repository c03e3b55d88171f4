/-
  What these parts of the proof come to, functions walked and plain laws: Acc1, Out2. No condition.
-/
import Derived.Test.YtadllffeoibelaaGreatS23
import Derived.Test.YtadllffeoibelaaGreatS27
import Derived.Deep.DeepCutAuto
import Derived.ScopeJumps
import Derived.Test.YtadllffeoibelaaGreatS9
import Derived.Test.YtadllffeoibelaaGreatS19
import Derived.Test.YtadllffeoibelaaGreatS10
import Derived.Test.YtadllffeoibelaaGreatS11
namespace Go.Proofs.YtadllffeoibelaaGreat
section
open Go.RowKit
attribute [local go_sem ↓] Go.wp_at_zero Go.wp_at_succ loadNm loadVt loadSg loadEv
attribute [local go_sem] runNm runVt runSg runEv pickRow_some rowAt_drew rowAt_drewN
def AccW (M : Int) (O : List Vt) : Prop:=∀ k x,O[k]? = some x→AllowR M (quoF (popF (xOf M) 10)) x (O.take k) true
theorem AccW.nil (M : Int) : AccW M []:=fun k x h => by simp at h
theorem AccW.snoc {M : Int} {O : List Vt} {x : Vt} (h : AccW M O) (hx : AllowR M (quoF (popF (xOf M) 10)) x O true) : AccW M (O ++ [x]):=by
 intro k y hy
 by_cases hk : k < O.length
 ·rw [List.getElem?_append_left hk] at hy
  rw [List.take_append_of_le_length (Nat.le_of_lt hk)]
  exact h k y hy
 ·rw [List.getElem?_append_right (by omega)] at hy
  have h0 : k - O.length = 0:=by
   have:=(List.getElem?_eq_some_iff.1 hy).1
   simpa using this
  rw [h0] at hy
  simp only [List.getElem?_cons_zero,Option.some.injEq] at hy
  have hkO : k = O.length:=by omega
  subst hkO
  rw [← hy,List.take_append_of_le_length (Nat.le_refl _),List.take_length]
  exact hx
theorem allow_mem {M : Int} {q : Nat} {v : Vt} {C : List Vt} (h : AllowR M q v C true) : (xOf M).testBit v.signer.toNat = true:=by
 unfold AllowR at h
 split at h
 ·exact h rfl
 ·rw [eq_comm,Bool.and_eq_true] at h
  exact h.1
def OneSl (s : Int) (v : Vt) : Prop:=ValidP v∧v.kind≤4∧v.slot = s
def AccO (M : Int) (p : Nm) (s : Int) (D O : List Vt) : Prop:=AccW M O∧∀ x ∈ O,x ∈ D∧OneSl s x∧x.parent = p∧(xOf M).testBit x.signer.toNat = true
def AccRel (M : Int) (p : Nm) (s : Int) (D : List Vt) (w : World) (v fv iv : Value) (wr : World) : Prop :=
 ∃ (i : Nat) (O : List Vt),iv = .int .i64 (i : Int)∧fv = .int .i64 0∧i≤D.length∧O.length≤i∧AccO M p s D O∧wr.ownsRow w.heap.size 46 22 v O.length (O.flatMap vtc)∧Below w.heap.size w wr∧((v = .slice none 0 0∧O = [])∨0 < O.length)
set_option maxRecDepth 100000 in
set_option maxHeartbeats 8000000 in
theorem acc_any (M : Int) (p : Nm) (A : Option Addr) (n c : Nat) (l : List Vt) (s : Int) (w0 : World) (hn : l.length = n) (hr : Rd w0 w0.heap.size A (l.flatMap vtc)) (hsm : n≤1000000) (hl : ∀ v ∈ l,OneSl s v) (hs : (xOf M).testBit s.toNat = true) :
  Calls Tryz.prog 114 #[.int .i64 M,p.val,.slice A n c] w0 fun e w' => ∃ (v : Value) (O : List Vt),e = .returned v∧AccO M p s l O∧O.length≤n∧w'.ownsRow w0.heap.size 46 22 v O.length (O.flatMap vtc)∧Below w0.heap.size w0 w':=by
 obtain ⟨wa,hwa⟩ : ∃ wa,wa = w0.alloc (.cells p.cells 24):=⟨_,rfl⟩
 have hba : Below w0.heap.size w0 wa:=by rw [hwa]; exact (Below.refl _ _).alloc (Nat.le_refl _) _
 have y1 : rowAt wa w0.heap.size 0 8 = some p.cells:=by rw [hwa]; exact (Blk.new w0 _ _).row 8 rfl
 have hsa : wa.heap.size = w0.heap.size + 1:=by rw [hwa]; simp
 have HAsc:=Lib.hid (asc_any p A n c l wa hn ((hr.below hba).more hba.size) hsm)
 have HL:=Lib.hid hl
 have HS:=Lib.hid hs
 have HWa:=Lib.hid hwa
 clear hn hr hl hs hwa
 go_enter Tryz.func114,Tryz.ntmps114
 go_wp2
 go_step3
 go_wp2
 go_step3
 simp only [← HWa.out]
 go_wp2_with fail
 refine HAsc.out.mono ?_
 rintro en w ⟨v0,D,rfl,hD,hDn,hownD,hbD⟩
 have HD : Hid (∀ x ∈ D,x ∈ l∧OneSl s x∧x.parent = p):=fun x hx => ⟨(hD x hx).1,HL.out x (hD x hx).1,(hD x hx).2⟩
 obtain ⟨A1,c1,rfl,hR1⟩ : ∃ A1 c1,v0 = .slice A1 D.length c1∧Rd w w.heap.size A1 (D.flatMap vtc):=by
  rcases hownD.2 with ⟨rfl,h0⟩ | ⟨g,cap,cur,rfl,_⟩
  ·exact ⟨none,0,by rw [h0],.inl (List.eq_nil_of_length_eq_zero (by rw [hownD.1,h0,Nat.zero_mul]))⟩
  ·exact ⟨_,cap,rfl,Rd.of_own hownD⟩
 obtain ⟨m,hm⟩ : ∃ m,D.length = m:=⟨_,rfl⟩
 rw [hm] at hDn ⊢
 have HM:=Lib.hid hm
 have HR:=Lib.hid hR1
 have hbw0 : Below w0.heap.size w0 w:=hba.trans (hbD.mono hba.size)
 have hm6 : m≤1000000:=by omega
 clear hm hD hownD hR1 y1 HAsc
 go_wp2
 go_loopw [7,8,15] (fun v fv iv wr => AccRel M p s D w v fv iv wr) (fun _ _ iv _ => m - (intOf iv).toNat)
 case atStart => exact ⟨0,[],rfl,rfl,Nat.zero_le _,Nat.le_refl _,⟨AccW.nil M,fun x hx => by cases hx⟩,⟨by simp,.inl ⟨rfl,rfl⟩⟩,Below.refl _ _,.inl ⟨rfl,rfl⟩⟩
 case round =>
  obtain ⟨i,O,rfl,rfl,hin,hOi,hO,hown,hbw,hnil⟩:=hrel
  rw [HM.out] at hin
  have HO:=Lib.hid hO
  have HOwn:=Lib.hid hown
  clear hO hown
  have hO6 : O.length≤1000000:=by omega
  by_cases hi : i < m
  ·have di : decide ((i : Int) < (m : Int)) = true:=by simp; omega
   obtain ⟨x,hx⟩ : ∃ x,D[i]? = some x:=⟨_,List.getElem?_eq_getElem (by rw [HM.out]; exact hi)⟩
   obtain ⟨b,o,rfl,hb,hcell⟩:=HR.out.cells (by intro e; have:=flat_length vtc 22 D (vtc_len D); rw [e,HM.out] at this; simp at this; omega)
   clear hcell
   have x1 : rowAt wr b (o + i * 22) 22 = some x.cells:=(HR.out.below hbw).voteRow hx
   have HX:=Lib.hid (HD.out x (List.mem_of_getElem? hx))
   have HXD:=Lib.hid (List.mem_of_getElem? hx)
   clear hx
   rcases hnil with ⟨rfl,rfl⟩ | hpos
   ·go_upto_region 6 with (refine wpList_store_blk rfl 46 (.tmp 10) (.tmp 18) rfl wr.heap.size x.cells rfl rfl 46 zeroV.cells (Blk.new wr _ _) (by rfl) (by kernel_rfl) (fun u hu => one_vt x hu) ?_; intro w4 hB4 hg4 hsz4)
    have HOwn4 : Hid (w4.ownsRow w.heap.size 46 22 (.slice none 0 0) 0 (([] : List Vt).flatMap vtc)):=own_kept (HOwn.out.alloc _) hg4 (fun k hk => by
     injection hk with hk
     subst hk
     right
     intro e
     have:=(HOwn.out.lt _ e).2
     omega)
    have hbw4 : Below w.heap.size w w4:=(hbw.alloc hbw.size _).grown hg4 (Nat.le_trans hbw.size (by simp)) (fun k hk => by injection hk with hk; subst hk; exact hbw.size)
    have hw4 : w4.heap.size = wr.heap.size + 1:=by rw [hsz4]; simp
    obtain ⟨z,hz⟩ : ∃ z,z = wr.heap.size:=⟨_,rfl⟩
    rw [← hz] at hB4 hw4 ⊢
    have x3 : rowAt w4 z 0 22 = some x.cells:=hB4.row 22 rfl
    have x4 : w4.cell? ⟨z,1,none⟩ = some (.int .i64 x.slot):=hB4.cell 1
    have hz4 : z < w4.heap.size:=by omega
    have HRv : Hid (∀ V,Below w4.heap.size w4 V→rowAt V z 0 22 = some x.cells):=fun V hV => (hB4.below hV hz4).row 22 rfl
    clear hg4 hsz4 x1 HOwn hz hw4
    clear hB4
    try go_frame
    go_cut [32] (fun bv wx => bv = .bool false∧∃ k,wx = w4.drewN k)
    case first =>
     refine rgD (fun _ => True) (trivial) fun hHeld => ?_
     refine tkD 19 0 ?_
     go_frame
     refine tkD 20 1 ?_
     go_frame
     refine tkD 21 2 ?_
     go_frame
     refine tkD 22 3 ?_
     go_frame
     refine tkD 23 4 ?_
     go_frame
     refine skD 24 5 ?_
     go_frame
     refine skD 25 6 ?_
     go_frame
     refine skD 26 7 ?_
     go_frame
     refine skD 27 8 ?_
     go_frame
     refine skD 28 9 ?_
     go_frame
     refine skD 29 10 ?_
     go_frame
     refine skD 30 11 ?_
     go_frame
     refine skD 31 12 ?_
     go_frame
     refine tkD 32 13 ?_
     go_frame
     refine dnD ?_
     go_wp2_with fail
     go_meet
     exact ⟨rfl,1,rfl⟩
    case rest =>
     obtain ⟨rfl,k,rfl⟩:=hcut
     have HOwn5 : Hid ((w4.drewN k).ownsRow w.heap.size 46 22 (.slice none 0 0) 0 (([] : List Vt).flatMap vtc)):=HOwn4.out
     have hbw5 : Below w.heap.size w (w4.drewN k):=below_drewN hbw4 k
     have hb45 : Below w4.heap.size w4 (w4.drewN k):=below_drewN (Below.refl _ _) k
     have HRv5 : Hid (∀ V,Below (w4.drewN k).heap.size (w4.drewN k) V→rowAt V z 0 22 = some x.cells):=fun V hV => HRv.out V (hb45.trans (hV.mono hb45.size))
     have hz5 : z < (w4.drewN k).heap.size:=hz4
     clear HOwn4 hbw4 hb45 HRv x3 x4
     generalize w4.drewN k = w5 at *
     have HAl : Hid (∀ V,Below w5.heap.size w5 V→Calls Tryz.prog 167 #[.int .i64 M,x.val,.slice none 0 0] V fun e w' => ∃ b,e = .returned (.bool b)∧Below V.heap.size V w'∧AllowR M (quoF (popF (xOf M) 10)) x ([] : List Vt) b):=fun V hV =>
      allowed_any M 0 none 0 ([] : List Vt) x V rfl Rd.nil (fun t ht => ⟨(HO.out.2 t ht).2.1.1,(HO.out.2 t ht).2.1.2.1,((HO.out.2 t ht).2.2.1).trans HX.out.2.2.symm,((HO.out.2 t ht).2.1.2.2).trans HX.out.2.1.2.2.symm,(HO.out.2 t ht).2.2.2⟩) (by omega)
       HX.out.2.1.1 HX.out.2.1.2.1 (by rw [HX.out.2.1.2.2]; exact HS.out)
     have x6 : rowAt w5 z 0 22 = some x.cells:=HRv5.out w5 (Below.refl _ _)
     have hbx : Below w5.heap.size w5 w5:=Below.refl _ _
     go_wp2_with fail
     refine rgD (fun w' => rowAt w' z 0 22 = some x.cells) (HRv5.out _ hbx.drew) fun hHeld => ?_
     refine tkD 35 0 ?_
     go_frame
     refine tkD 36 1 ?_
     go_frame
     refine tkD 37 2 ?_
     go_frame
     refine tkD 38 3 ?_
     go_frame
     refine tkD 39 4 ?_
     go_frame
     refine rd1 5 fun K hK => ?_
     go_simp
     refine (HAl.out _ hbx.drew).mono ?_; rintro en w6 ⟨r,rfl,hb6,hal⟩; have hb56:=hbx.drew.trans (hb6.mono (Nat.le_refl _)); have HAL:=Lib.hid hal; clear hal
     go_wp2_with fail
     refine hK.out _ _ (HRv5.out _ hb56) (fun hHeld => ?_)
     clear hK K
     try go_frame
     refine tkD 41 6 ?_
     go_frame
     refine dnD ?_
     have hbw6 : Below w.heap.size w w6:=hbw5.trans (hb56.mono hbw5.size)
     have HOwn6 : Hid (w6.ownsRow w.heap.size 46 22 (.slice none 0 0) 0 (([] : List Vt).flatMap vtc)):=own_below HOwn5.out hb56 (Nat.le_refl _)
     have x7 : rowAt w6 z 0 22 = some x.cells:=HRv5.out _ hb56
     clear HOwn5 hbw5 HAl HRv5 hb56 hb6 x6 hbx
     cases r with
     | false =>
      go_wp2
      go_roundw
      case rel => exact ⟨i + 1,([] : List Vt),by go_num,rfl,by rw [HM.out]; omega,by simp,HO.out,HOwn6.out,hbw6,.inl ⟨rfl,rfl⟩⟩
      case measure => simp [intOf]; omega
     | true =>
      go_wp2_with ((first
       | (refine wpList_build1 rfl 56 46 (.tmp 43) rfl x.cells rfl Tryz.underlying56 (by kernel_rfl) (by decide) (by decide) ?_)
       | (at_builtin; refine wpList_app rfl (.tmp 42) (.tmp 44) _ rfl w.heap.size 46 (.agg zeroV.cells) 22 64 Tryz.underlying56 info_vote rfl (by decide) (.slice none 0 0) 0 (([] : List Vt).flatMap vtc) rfl ?r0 (w6.heap.size + 1) (some ⟨w6.heap.size,0,none⟩) 1 1 (vtc x) rfl ?r1 ?r2 ?r3 ?r4 ?r5 ?r6 ?_)))
      case r0 => exact HOwn6.out.alloc _
      case r1 => rfl
      case r2 => exact Rd.mk (by omega) (fun j u hu => by rw [Nat.zero_add,(Blk.new w6 _ _).cell]; simpa using hu)
      case r3 => exact fun u hu => one_vt x hu
      case r4 => omega
      case r5 => unfold maxLen; omega
      case r6 => have:=hbw6.size; simp; omega
      intro v7 w7 hown7 hg7 hat7
      have hbw7 : Below w.heap.size w w7:=below_own (hbw6.alloc hbw6.size _) (HOwn6.out.alloc _) hg7
      have HOwn7:=Lib.hid hown7
      clear hown7 hg7 hat7 x7 HOwn6
      go_wp2
      go_roundw
      case rel =>
       refine ⟨i + 1,([] : List Vt) ++ [x],by go_num,rfl,by rw [HM.out]; omega,by rw [List.length_append]; simp,⟨HO.out.1.snoc HAL.out,?_⟩,?_,hbw7,.inr (by rw [List.length_append]; simp)⟩
       ·intro t ht
        rcases List.mem_append.1 ht with ht | ht
        ·exact HO.out.2 t ht
        ·rw [List.mem_singleton.1 ht]; exact ⟨HXD.out,HX.out.2.1,HX.out.2.2,allow_mem HAL.out⟩
       ·have h:=HOwn7.out
        rw [List.length_append,List.flatMap_append]
        simpa using h
      case measure => simp [intOf]; omega
   ·obtain ⟨g,cap,T,rfl,hg,hblk,hcap⟩ : ∃ g cap T,u7 = .slice (some ⟨g,0,none⟩) O.length cap∧w.heap.size≤g∧Blk wr g 46 (O.flatMap vtc ++ T).toArray∧O.length≤cap:=by
     rcases own_tail HOwn.out with ⟨_,h0,_⟩ | h
     ·omega
     ·exact h
    go_upto_region 6 with (refine wpList_store_blk rfl 46 (.tmp 10) (.tmp 18) rfl wr.heap.size x.cells rfl rfl 46 zeroV.cells (Blk.new wr _ _) (by rfl) (by kernel_rfl) (fun u hu => one_vt x hu) ?_; intro w4 hB4 hg4 hsz4)
    have HOwn4 : Hid (w4.ownsRow w.heap.size 46 22 (.slice (some ⟨g,0,none⟩) O.length cap) O.length (O.flatMap vtc)):=own_kept (HOwn.out.alloc _) hg4 (fun k hk => by
     injection hk with hk
     subst hk
     right
     intro e
     have:=(HOwn.out.lt _ e).2
     omega)
    have hbw4 : Below w.heap.size w w4:=(hbw.alloc hbw.size _).grown hg4 (Nat.le_trans hbw.size (by simp)) (fun k hk => by injection hk with hk; subst hk; exact hbw.size)
    have hw4 : w4.heap.size = wr.heap.size + 1:=by rw [hsz4]; simp
    obtain ⟨z,hz⟩ : ∃ z,z = wr.heap.size:=⟨_,rfl⟩
    rw [← hz] at hB4 hw4 ⊢
    have x3 : rowAt w4 z 0 22 = some x.cells:=hB4.row 22 rfl
    have x4 : w4.cell? ⟨z,1,none⟩ = some (.int .i64 x.slot):=hB4.cell 1
    have hz4 : z < w4.heap.size:=by omega
    have HRv : Hid (∀ V,Below w4.heap.size w4 V→rowAt V z 0 22 = some x.cells):=fun V hV => (hB4.below hV hz4).row 22 rfl
    clear hsz4 x1 HOwn hz hw4
    have HG4 : Hid (Blk w4 g 46 (O.flatMap vtc ++ T).toArray):=(hblk.alloc _).kept hg4 (by intro e; injection e with e; have:=hblk.lt; omega)
    clear hg4 hblk
    obtain ⟨y,hy⟩ : ∃ y,O[0]? = some y:=⟨_,List.getElem?_eq_getElem hpos⟩
    have hysl : y.slot = x.slot:=((HO.out.2 y (List.mem_of_getElem? hy)).2.1.2.2).trans HX.out.2.1.2.2.symm
    have x5 : w4.cell? ⟨g,1,none⟩ = some (.int .i64 x.slot):=by
     have h:=row_cell (c:=⟨vtc,T⟩) (m:=22) (fun _ => rfl) HG4.out 0 1 y (.int .i64 y.slot) hy rfl
     rw [← hysl]
     simpa using h
    have hgz : g < w4.heap.size:=HG4.out.lt
    clear hy hysl
    clear hB4
    have dl : decide (0 < (O.length : Int)) = true:=by simp; omega
    have dn : (x.slot != x.slot) = false:=by simp
    have HX45 : Hid (w4.cell? ⟨z,1,none⟩ = some (.int .i64 x.slot)∧w4.cell? ⟨g,1,none⟩ = some (.int .i64 x.slot)):=⟨x4,x5⟩
    obtain ⟨nO,hnO⟩ : ∃ nO,O.length = nO:=⟨_,rfl⟩
    rw [hnO] at hcap dl hO6 hpos hOi ⊢
    have dl2 : decide (0 < nO) = true:=by simp; omega
    have HNO:=Lib.hid hnO
    clear hnO
    try go_frame
    go_cut [32] (fun bv wx => bv = .bool false∧∃ k,wx = w4.drewN k)
    case first =>
     refine rgD (fun w' => w'.cell? ⟨z,1,none⟩ = some (.int .i64 x.slot)∧w'.cell? ⟨g,1,none⟩ = some (.int .i64 x.slot)) (HX45.out) fun hHeld => ?_
     refine tkD 19 0 ?_
     go_frame
     refine tkD 20 1 ?_
     go_frame
     refine tkD 21 2 ?_
     go_frame
     refine tkD 22 3 ?_
     go_frame
     refine tkD 23 4 ?_
     go_frame
     refine tkD 24 5 ?_
     go_frame
     refine tkD 25 6 ?_
     go_frame
     refine tkD 26 7 ?_
     go_frame
     refine tkD 27 8 ?_
     go_frame
     refine tkD 28 9 ?_
     go_frame
     refine tkD 29 10 ?_
     go_frame
     refine tkD 30 11 ?_
     go_frame
     refine tkD 31 12 ?_
     go_frame
     refine tkD 32 13 ?_
     go_frame
     refine dnD ?_
     go_wp2_with fail
     go_meet
     exact ⟨rfl,1,rfl⟩
    case rest =>
     obtain ⟨rfl,k,rfl⟩:=hcut
     have HOwn5 : Hid ((w4.drewN k).ownsRow w.heap.size 46 22 (.slice (some ⟨g,0,none⟩) O.length cap) O.length (O.flatMap vtc)):=HOwn4.out
     have hbw5 : Below w.heap.size w (w4.drewN k):=below_drewN hbw4 k
     have hb45 : Below w4.heap.size w4 (w4.drewN k):=below_drewN (Below.refl _ _) k
     have HRv5 : Hid (∀ V,Below (w4.drewN k).heap.size (w4.drewN k) V→rowAt V z 0 22 = some x.cells):=fun V hV => HRv.out V (hb45.trans (hV.mono hb45.size))
     have hz5 : z < (w4.drewN k).heap.size:=hz4
     clear HOwn4 hbw4 hb45 HRv x3 x4
     clear HG4 x5 HX45 hgz
     generalize w4.drewN k = w5 at *
     have HAl : Hid (∀ V,Below w5.heap.size w5 V→Calls Tryz.prog 167 #[.int .i64 M,x.val,.slice (some ⟨g,0,none⟩) nO cap] V fun e w' => ∃ b,e = .returned (.bool b)∧Below V.heap.size V w'∧AllowR M (quoF (popF (xOf M) 10)) x O b):=fun V hV =>
      allowed_any M nO (some ⟨g,0,none⟩) cap O x V HNO.out ((Rd.of_own (HNO.out ▸ HOwn5.out)).below hV |>.more hV.size) (fun t ht => ⟨(HO.out.2 t ht).2.1.1,(HO.out.2 t ht).2.1.2.1,((HO.out.2 t ht).2.2.1).trans HX.out.2.2.symm,((HO.out.2 t ht).2.1.2.2).trans HX.out.2.1.2.2.symm,(HO.out.2 t ht).2.2.2⟩) (by omega)
       HX.out.2.1.1 HX.out.2.1.2.1 (by rw [HX.out.2.1.2.2]; exact HS.out)
     have x6 : rowAt w5 z 0 22 = some x.cells:=HRv5.out w5 (Below.refl _ _)
     have hbx : Below w5.heap.size w5 w5:=Below.refl _ _
     go_wp2_with fail
     refine rgD (fun w' => rowAt w' z 0 22 = some x.cells) (HRv5.out _ hbx.drew) fun hHeld => ?_
     refine tkD 35 0 ?_
     go_frame
     refine tkD 36 1 ?_
     go_frame
     refine tkD 37 2 ?_
     go_frame
     refine tkD 38 3 ?_
     go_frame
     refine tkD 39 4 ?_
     go_frame
     refine rd1 5 fun K hK => ?_
     go_simp
     refine (HAl.out _ hbx.drew).mono ?_; rintro en w6 ⟨r,rfl,hb6,hal⟩; have hb56:=hbx.drew.trans (hb6.mono (Nat.le_refl _)); have HAL:=Lib.hid hal; clear hal
     go_wp2_with fail
     refine hK.out _ _ (HRv5.out _ hb56) (fun hHeld => ?_)
     clear hK K
     try go_frame
     refine tkD 41 6 ?_
     go_frame
     refine dnD ?_
     have hbw6 : Below w.heap.size w w6:=hbw5.trans (hb56.mono hbw5.size)
     have HOwn6 : Hid (w6.ownsRow w.heap.size 46 22 (.slice (some ⟨g,0,none⟩) O.length cap) O.length (O.flatMap vtc)):=own_below HOwn5.out hb56 (Nat.le_refl _)
     have x7 : rowAt w6 z 0 22 = some x.cells:=HRv5.out _ hb56
     clear HOwn5 hbw5 HAl HRv5 hb56 hb6 x6 hbx
     cases r with
     | false =>
      go_wp2
      go_roundw
      case rel => exact ⟨i + 1,O,by go_num,rfl,by rw [HM.out]; omega,by rw [HNO.out]; omega,HO.out,(by have h:=HOwn6.out; rw [HNO.out] at h ⊢; exact h),hbw6,.inr (by rw [HNO.out]; omega)⟩
      case measure => simp [intOf]; omega
     | true =>
      go_wp2_with ((first
       | (refine wpList_build1 rfl 56 46 (.tmp 43) rfl x.cells rfl Tryz.underlying56 (by kernel_rfl) (by decide) (by decide) ?_)
       | (at_builtin; refine wpList_app rfl (.tmp 42) (.tmp 44) _ rfl w.heap.size 46 (.agg zeroV.cells) 22 64 Tryz.underlying56 info_vote rfl (by decide) (.slice (some ⟨g,0,none⟩) nO cap) nO (O.flatMap vtc) rfl ?r0 (w6.heap.size + 1) (some ⟨w6.heap.size,0,none⟩) 1 1 (vtc x) rfl ?r1 ?r2 ?r3 ?r4 ?r5 ?r6 ?_)))
      case r0 => exact (HNO.out ▸ HOwn6.out.alloc _)
      case r1 => rfl
      case r2 => exact Rd.mk (by omega) (fun j u hu => by rw [Nat.zero_add,(Blk.new w6 _ _).cell]; simpa using hu)
      case r3 => exact fun u hu => one_vt x hu
      case r4 => omega
      case r5 => unfold maxLen; omega
      case r6 => have:=hbw6.size; simp; omega
      intro v7 w7 hown7 hg7 hat7
      have hbw7 : Below w.heap.size w w7:=below_own (hbw6.alloc hbw6.size _) (HOwn6.out.alloc _) hg7
      have HOwn7:=Lib.hid hown7
      clear hown7 hg7 hat7 x7 HOwn6
      go_wp2
      go_roundw
      case rel =>
       refine ⟨i + 1,O ++ [x],by go_num,rfl,by rw [HM.out]; omega,by rw [List.length_append,HNO.out]; simp; omega,⟨HO.out.1.snoc HAL.out,?_⟩,?_,hbw7,.inr (by rw [List.length_append]; simp)⟩
       ·intro t ht
        rcases List.mem_append.1 ht with ht | ht
        ·exact HO.out.2 t ht
        ·rw [List.mem_singleton.1 ht]; exact ⟨HXD.out,HX.out.2.1,HX.out.2.2,allow_mem HAL.out⟩
       ·have h:=HOwn7.out
        rw [List.length_append,List.flatMap_append]
        simpa [HNO.out] using h
      case measure => simp [intOf]; omega
  ·have di : decide ((i : Int) < (m : Int)) = false:=by simp; omega
   clear hnil
   go_wp2
   rw [Exit.noGoto_ret]
   go_ret
   exact ⟨u7,O,rfl,⟨HO.out.1,fun y hy => ⟨(HD.out y (HO.out.2 y hy).1).1,(HO.out.2 y hy).2⟩⟩,by omega,own_base HOwn.out hbw0.size,hbw0.trans (hbw.mono hbw0.size)⟩
end
section
open Go.RowKit Go.Shelf
def MaskFor (M : Int) (O : List Vt) (k : Oc) (S : Nat) : Prop :=
 S < 1024∧∀ i,i < 10→S.testBit i = true→(xOf M).testBit i = true∧∃ w ∈ O,w.signer = (i : Int)∧w.kind = 4∧w.round = k.round∧w.choice = k.choice∧w.value = k.value
theorem MaskFor.zero (M : Int) (O : List Vt) (k : Oc) : MaskFor M O k 0:=⟨by decide,fun i _ h => by simp at h⟩
theorem MaskFor.or {M : Int} {O : List Vt} {k : Oc} {S s : Nat} (h : MaskFor M O k S) (hs : s≤9) (hm : (xOf M).testBit s = true) (hw : ∃ w ∈ O,w.signer = (s : Int)∧w.kind = 4∧w.round = k.round∧w.choice = k.choice∧w.value = k.value) : MaskFor M O k (S ||| 2 ^ s):=by
 refine ⟨or_lt10 S s h.1 hs,fun i hi hb => ?_⟩
 rw [Nat.testBit_or,Bool.or_eq_true,Nat.testBit_two_pow] at hb
 rcases hb with hb | hb
 ·exact h.2 i hi hb
 ·have : s = i:=by simpa using hb
  subst this
  exact ⟨hm,hw⟩
def MaskOK (M : Int) (s : Int) (O : List Vt) (kl : List (Oc × Value)) : Prop :=
 ∀ p ∈ kl,p.1.slot = s∧p.1.choice ≠ 2∧∃ S : Nat,p.2 = .int .i64 (S : Int)∧MaskFor M O p.1 S
theorem MaskOK.nil (M s : Int) (O : List Vt) : MaskOK M s O []:=fun p h => by cases h
theorem MaskOK.upd {M s : Int} {O : List Vt} {kl kl' : List (Oc × Value)} {k : Oc} {S : Nat} (h : MaskOK M s O kl) (hu : Upd k (.int .i64 (S : Int)) kl kl') (hk : k.slot = s) (hc : k.choice ≠ 2) (hS : MaskFor M O k S) : MaskOK M s O kl':=by
 intro p hp
 rcases hu p hp with h1 | rfl
 ·exact h p h1
 ·exact ⟨hk,hc,S,rfl,hS⟩
theorem alook_mem {κ : Type} [DecidableEq κ] (k : κ) (v : Value) : ∀ l : List (κ × Value),alook k l = some v→(k,v) ∈ l
 | [],h => by simp [alook] at h
 | p :: r,h => by
  rw [alook] at h
  split at h
  ·rename_i hk
   injection h with h
   rw [hk,← h]
   exact List.mem_cons_self
  ·exact List.mem_cons_of_mem _ (alook_mem k v r h)
theorem MaskOK.look {M s : Int} {O : List Vt} {kl : List (Oc × Value)} (h : MaskOK M s O kl) (k : Oc) : ∃ S : Nat,(alook k kl).getD (.int .i64 0) = .int .i64 (S : Int)∧MaskFor M O k S:=by
 rcases ha : alook k kl with _ | v
 ·exact ⟨0,rfl,MaskFor.zero M O k⟩
 ·obtain ⟨_,_,S,hS,hm⟩:=h (k,v) (alook_mem k v kl ha)
  exact ⟨S,by rw [Option.getD_some]; exact hS,hm⟩
theorem MaskOK.out {M s : Int} {O : List Vt} {kl : List (Oc × Value)} (h : MaskOK M s O kl) {k : Oc} {S : Nat} (hk : (k,Value.int .i64 (S : Int)) ∈ kl) (hq : quoF (popF (xOf M) 10)≤popF (xOf (S : Int)) 10) : k.slot = s∧OutS (xOf M) O k.round k.choice k.value:=by
 obtain ⟨h1,h2,S',hS',hm⟩:=h _ hk
 have e : S = S':=by
  simp only [Value.int.injEq,true_and] at hS'
  omega
 subst e
 rw [xOf_nat S hm.1] at hq
 exact ⟨h1,h2,S,fun i hi hb => (hm.2 i hi hb).1,hq,fun i hi hb => (hm.2 i hi hb).2⟩
theorem zero_mask (w : World) : (zeroValue 22).run Tryz.prog w = .ok (.int .i64 0) w:=by kernel_rfl
set_option maxRecDepth 100000 in
theorem run_buildOc {o : Oper} {a : Act} (s r c : Int) (v : Nm) (x0 x1 x2 x3 : Operand) (ho : o.op = .build 142 #[(0,x0),(1,x1),(2,x2),(3,x3)]) (h0 : a.eval x0 = I s) (h1 : a.eval x1 = I r) (h2 : a.eval x2 = I c) (h3 : a.eval x3 = .agg v.cells) (w : World) :
  (execOp a.eval o).run Tryz.prog w = .ok (.value (Oc.mk s r c v).val) w:=by
 unfold execOp
 rw [ho]
 simp only [List.map_toArray,List.map_cons,List.map_nil,h0,h1,h2,h3]
 go_simp
theorem run_shl1 {o : Oper} {a : Act} (x : Operand) (s : Nat) (ho : o.op = .binOp .shl 22 (.const (.int .i64 1)) x 3) (hx : a.eval x = .int .i64 (s : Int)) (hs : s≤9) (w : World) :
  (execOp a.eval o).run Tryz.prog w = .ok (.value (.int .i64 ((2 ^ s : Nat) : Int))) w:=by
 have he : a.eval (.const (.int .i64 1)) = .int .i64 1:=rfl
 unfold execOp
 rw [ho]
 simp only [hx,he]
 go_simp
 clear ho hx he
 rcases (by omega : s = 0∨s = 1∨s = 2∨s = 3∨s = 4∨s = 5∨s = 6∨s = 7∨s = 8∨s = 9) with rfl | rfl | rfl | rfl | rfl | rfl | rfl | rfl | rfl | rfl <;> rfl
theorem run_orm {o : Oper} {a : Act} (x y : Operand) (m s : Nat) (ho : o.op = .binOp .or 22 x y 22) (hx : a.eval x = .int .i64 (m : Int)) (hy : a.eval y = .int .i64 ((2 ^ s : Nat) : Int)) (hm : m < 1024) (hs : s≤9) (w : World) :
  (execOp a.eval o).run Tryz.prog w = .ok (.value (.int .i64 ((m ||| 2 ^ s : Nat) : Int))) w:=by
 have h2 : 2 ^ s < 1024:=Nat.pow_lt_pow_right (n:=10) (by omega) (by omega)
 have h:=i64_or m (2 ^ s) (by omega) (by omega)
 obtain ⟨z,hz⟩ : ∃ z : Int,z = ((2 ^ s : Nat) : Int):=⟨_,rfl⟩
 obtain ⟨z2,hz2⟩ : ∃ z : Int,z = ((m ||| 2 ^ s : Nat) : Int):=⟨_,rfl⟩
 rw [← hz,← hz2] at h
 rw [← hz] at hy
 rw [← hz2]
 unfold execOp
 rw [ho]
 simp only [hx,hy]
 clear hz hz2
 go_simp
theorem wp_ranv {op : Oper} {a : Act} {w w' : World} {K : Act→World→Prop} {Q : Exit→Act→World→Prop} (v : Value) (hr : (execOp a.eval op).run Tryz.prog w = .ok (.value v) w') (hK : K (a.put op.dst v) w') : op.wp Tryz.prog a w K Q:=by
 unfold Oper.wp
 rw [hr,Oper.upon_value]
 exact hK
theorem wp_rans {op : Oper} {a : Act} {w w' : World} {K : Act→World→Prop} {Q : Exit→Act→World→Prop} (hr : (execOp a.eval op).run Tryz.prog w = .ok .skip w') (hK : K (a.put op.dst undef) w') : op.wp Tryz.prog a w K Q:=by
 unfold Oper.wp
 rw [hr]
 exact hK
theorem run_lookM {o : Oper} {a : Act} (x y : Operand) (ho : o.op = .lookup 178 x y false) (m : Nat) (k : Oc) (hx : a.eval x = .map (some m)) (hy : a.eval y = k.val) {w : World} {kl : List (Oc × Value)} (h : MapB Oc.val w m kl) :
  (execOp a.eval o).run Tryz.prog w = .ok (.value ((alook k kl).getD (.int .i64 0))) w:=by
 have hr:=h.is.look keyOc Tryz.underlying178 (.int .i64 0) (zero_mask w) k false
 unfold execOp
 rw [ho]
 simp only [hx,hy]
 simp only [Bool.false_eq_true,if_false] at hr
 simp [hr,Result.andThen]
theorem run_entM {o : Oper} {a : Act} (x y : Operand) (ho : o.op = .mapEntry 178 x y) (m : Nat) (k : Oc) (hx : a.eval x = .map (some m)) (hy : a.eval y = k.val) {w : World} {kl : List (Oc × Value)} (h : MapB Oc.val w m kl) :
  ∃ (w' : World) (b : Nat) (v : Value) (kl' : List (Oc × Value)),(execOp a.eval o).run Tryz.prog w = .ok (.value (.tuple #[v,goInt (b : Int)])) w'∧MapE Oc.val w' m kl' k b∧Upd k (.int .i64 0) kl kl'∧kl'.length≤kl.length + 1∧w.grownBy w' (some m)∧w'.heap.size = w.heap.size:=by
 obtain ⟨w',b,v,kl',hr,h1⟩:=h.entry keyOc Tryz.underlying178 (.int .i64 0) zero_mask k
 refine ⟨w',b,v,kl',?_,h1⟩
 unfold execOp
 rw [ho]
 simp only [hx,hy]
 simp [hr,Result.andThen]
theorem run_estM {o : Oper} {a : Act} (x y z : Operand) (ho : o.op = .entryStore 178 x y z) (m b : Nat) (k : Oc) (v : Value) (hx : a.eval x = .map (some m)) (hy : a.eval y = goInt (b : Int)) (hz : a.eval z = v) {w : World} {kl : List (Oc × Value)} (h : MapE Oc.val w m kl k b) :
  ∃ (w' : World) (kl' : List (Oc × Value)),(execOp a.eval o).run Tryz.prog w = .ok .skip w'∧MapB Oc.val w' m kl'∧Upd k v kl kl'∧kl'.length = kl.length∧w.grownBy w' (some m)∧w'.heap.size = w.heap.size:=by
 obtain ⟨w',kl',hr,h1⟩:=h.store (P:=Tryz.prog) 178 v
 refine ⟨w',kl',?_,h1⟩
 unfold execOp
 rw [ho]
 simp only [hx,hy,hz]
 simp [hr,Result.andThen]
theorem MapE.isB {κ : Type} {enc : κ→Value} {w : World} {m b : Nat} {l : List (κ × Value)} {k : κ} (h : MapE enc w m l k b) : MapB enc w m l:=by
 obtain ⟨es,c,i,e,h1,h2,h3,h4,_⟩:=h
 exact ⟨es,c,h1,h2,h3,h4⟩
theorem wp_entM {op : Oper} {a : Act} {K : Act→World→Prop} {Q : Exit→Act→World→Prop} (x y : Operand) (ho : op.op = .mapEntry 178 x y) (m : Nat) (k : Oc) (hx : a.eval x = .map (some m)) (hy : a.eval y = k.val) {w : World} {kl : List (Oc × Value)} (h : MapB Oc.val w m kl)
  (hK : ∀ (w' : World) (b : Nat) (v : Value) (kl' : List (Oc × Value)),MapE Oc.val w' m kl' k b→Upd k (.int .i64 0) kl kl'→kl'.length≤kl.length + 1→w.grownBy w' (some m)→w'.heap.size = w.heap.size→K (a.put op.dst (.tuple #[v,goInt (b : Int)])) w') : op.wp Tryz.prog a w K Q:=by
 obtain ⟨w',b,v,kl',hr,h1,h2,h3,h4,h5⟩:=run_entM x y ho m k hx hy h
 exact wp_ranv _ hr (hK w' b v kl' h1 h2 h3 h4 h5)
theorem wp_estM {op : Oper} {a : Act} {K : Act→World→Prop} {Q : Exit→Act→World→Prop} (x y z : Operand) (ho : op.op = .entryStore 178 x y z) (m b : Nat) (k : Oc) (v : Value) (hx : a.eval x = .map (some m)) (hy : a.eval y = goInt (b : Int)) (hz : a.eval z = v) {w : World} {kl : List (Oc × Value)} (h : MapE Oc.val w m kl k b)
  (hK : ∀ (w' : World) (kl' : List (Oc × Value)),MapB Oc.val w' m kl'→Upd k v kl kl'→kl'.length = kl.length→w.grownBy w' (some m)→w'.heap.size = w.heap.size→K (a.put op.dst undef) w') : op.wp Tryz.prog a w K Q:=by
 obtain ⟨w',kl',hr,h1,h2,h3,h4,h5⟩:=run_estM x y z ho m b k v hx hy hz h
 exact wp_rans hr (hK w' kl' h1 h2 h3 h4 h5)
theorem Rng.le {enc : Oc→Value} {w : World} {m r cnt : Nat} {l : List (Oc × Value)} (h : Rng enc w m r l cnt) : cnt≤l.length:=by
 obtain ⟨es,c,s,c0,seen,_,_,h3,_,_,_,_,h8⟩:=h
 rw [h8]
 unfold leftOf
 have h4:=congrArg List.length h3
 simp only [List.length_map,Array.length_toList] at h4
 rw [← h4]
 exact Array.size_filter_le
theorem Rng.ne_row {enc : Oc→Value} {w : World} {m r cnt base n size : Nat} {e : TypeId} {v : Value} {xs : List Value} {l : List (Oc × Value)} (h : Rng enc w m r l cnt) (ho : w.ownsRow base e size v n xs) : some m ≠ v.ownBlock∧some r ≠ v.ownBlock:=by
 obtain ⟨es,c,s,c0,seen,h1,h2,_⟩:=h
 rcases ho.2 with ⟨rfl,_⟩ | ⟨g,cap,cur,rfl,_,hh,_⟩
 ·exact ⟨by simp [Value.ownBlock],by simp [Value.ownBlock]⟩
 ·refine ⟨fun he => ?_,fun he => ?_⟩
  ·have : m = g:=by simpa [Value.ownBlock] using he
   subst this
   rw [h1] at hh
   cases hh
  ·have : r = g:=by simpa [Value.ownBlock] using he
   subst this
   rw [h2] at hh
   cases hh
def OutMid (D : List Oc) (w : World) (pb : Nat) (v : Value) (e : Ending) (w3 : World) : Prop :=
 e = .returned (.tuple #[])∧Blk w3 pb 103 #[v]∧Below w.heap.size w w3∧∃ (l3 : List Oc),l3.Perm D∧w3.ownsRow w.heap.size 142 11 v l3.length (l3.flatMap occ)
theorem own_tail2 {w : World} {b n : Nat} {e : TypeId} {v : Value} {m : Nat} {xs : List Value} (h : w.ownsRow b e m v n xs) : (v = .slice none 0 0∧n = 0∧xs = [])∨∃ g cap T,v = .slice (some ⟨g,0,none⟩) n cap∧b≤g∧Blk w g e (xs ++ T).toArray∧n≤cap∧cap≤maxLen∧xs.length + T.length = cap * m:=by
 rcases h.2 with ⟨hv,h0⟩ | ⟨g,cap,cur,hv,hg,hh,h1,h2,h3,ht⟩
 ·exact .inl ⟨hv,h0,List.eq_nil_of_length_eq_zero (by rw [h.1,h0,Nat.zero_mul])⟩
 ·refine .inr ⟨g,cap,cur.toList.drop (n * m),hv,hg,?_,h1,h2,?_⟩
  ·rw [← ht,List.take_append_drop]
   exact hh
  ·rw [← ht,← List.length_append,List.take_append_drop,Array.length_toList,h3]
set_option maxRecDepth 100000 in
theorem out_mid (w W : World) (pb : Nat) (v : Value) (D : List Oc) (hown : W.ownsRow w.heap.size 142 11 v D.length (D.flatMap occ)) (hb : Below w.heap.size w W) (hpb : Blk W pb 103 #[v]) (hsm : D.length≤1000000) :
  Calls Tryz.prog 116 #[.iface 103 v,.func (.func 117) #[] #[.pointer (some ⟨pb,0,none⟩)]] W (OutMid D w pb v):=by
 rcases own_tail2 hown with ⟨rfl,h0,_⟩ | ⟨g,cap,T,rfl,hg,hblk,hcap,hcap2,hlen⟩
 ·refine (slice_nil slT_oc 0 W).mono ?_
  rintro e w3 ⟨rfl,hb3⟩
  have hD : D = []:=List.eq_nil_of_length_eq_zero h0
  subst hD
  exact ⟨rfl,hpb.below hb3 hpb.lt,hb.trans (hb3.mono hb.size),[],List.Perm.refl _,by simp,.inl ⟨rfl,rfl⟩⟩
 ·have hne : pb ≠ g:=by
   intro e
   subst e
   unfold Blk at hpb hblk
   rw [hpb] at hblk
   injection hblk with hh
   injection hh with _ ht
   exact absurd ht (by decide)
  refine (slice_any slT_oc ⟨occ,T⟩ (fun _ => rfl) (by decide) (fun x v hv => one_oc x hv) (fun args W => enters_out args W) D g D.length cap W (outLess_on T pb g D.length cap D W hpb hne rfl) hblk rfl hsm).mono ?_
  rintro e w3 ⟨rfl,l3,hr3,hp3⟩
  have hl3:=hp3.length_eq
  have f3:=flat_length occ 11 l3 (occ_len l3)
  have fD:=flat_length occ 11 D (occ_len D)
  refine ⟨rfl,hr3.box hpb hne,hb.grown hr3.kept hb.size (fun k hk => by injection hk with hk; subst hk; exact hg),l3,hp3,f3,.inr ⟨g,cap,_,by rw [hl3],hg,hr3.blk,by rw [hl3]; exact hcap,hcap2,?_,?_⟩⟩
  ·show (l3.flatMap occ ++ T).length = _
   rw [List.length_append,f3,← hlen,fD,hl3]
  ·show (l3.flatMap occ ++ T).take (l3.length * 11) = _
   rw [← f3,List.take_left]
end
end Go.Proofs.YtadllffeoibelaaGreat
