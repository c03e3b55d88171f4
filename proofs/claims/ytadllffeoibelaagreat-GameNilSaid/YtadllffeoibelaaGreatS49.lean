/-
  What these parts of the proof come to, functions walked and plain laws: Dec2, GmDo, AwG. No condition.
-/
import Derived.Test.YtadllffeoibelaaGreatS34
import Derived.Test.YtadllffeoibelaaGreatS30
import Derived.Test.YtadllffeoibelaaGreatS12
import Derived.Test.YtadllffeoibelaaGreatS48
import Derived.Test.YtadllffeoibelaaGreatS45
import Derived.Test.YtadllffeoibelaaGreatS47
import Derived.Deep.DeepCutAuto
import Derived.Deep.CutBlock
import Derived.StillTailTactics
import Derived.Test.YtadllffeoibelaaGreatS9
import Derived.Test.YtadllffeoibelaaGreatS37
namespace Go.Proofs.YtadllffeoibelaaGreat
section
open Go.RowKit Go.Shelf
attribute [local go_sem ↓] Go.wp_at_zero Go.wp_at_succ loadNm loadVt loadSg loadEv loadOc
attribute [local go_sem] runNm runVt runSg runEv runOc pickRow_some rowAt_drew rowAt_drewN
def DecLG (M : Int) (p : Nm) (l : List Vt) (i : Nat) (L : List Oc) : Prop:=L.map (·.slot) = (idsF (xOf M) i).map (fun k : Nat => (k : Int))∧∀ o ∈ L,∃ L',OutG M p o.slot.toNat l (o :: L')
def DecG (M : Int) (p : Nm) (l : List Vt) (L : List Oc) (b : Bool) : Prop :=
 (b = true∧DecLG M p l 10 L∧0 < L.length)∨(b = false∧((∃ i,i < 10∧(xOf M).testBit i = true∧OutG M p i l [])∨idsF (xOf M) 10 = []))
def DecPostG (M : Int) (p : Nm) (l : List Vt) (w : World) (e : Ending) (w' : World) : Prop :=
 ∃ (v : Value) (L : List Oc) (b : Bool),e = .returned (.tuple #[v,.bool b])∧w'.ownsRow w.heap.size 142 11 v L.length (L.flatMap occ)∧Below w.heap.size w w'∧L.length≤10∧DecG M p l L b
def DecRelG (M : Int) (p : Nm) (l : List Vt) (w : World) (v iv : Value) (wr : World) : Prop :=
 ∃ (i : Nat) (L : List Oc),iv = .int .i64 (i : Int)∧i≤10∧L.length≤i∧DecLG M p l i L∧wr.ownsRow w.heap.size 142 11 v L.length (L.flatMap occ)∧Below w.heap.size w wr
set_option maxRecDepth 100000 in
set_option maxHeartbeats 8000000 in
theorem decdG_any (M : Int) (p : Nm) (A : Option Addr) (n c : Nat) (l : List Vt) (w0 : World) (hn : l.length = n) (hr : Rd w0 w0.heap.size A (l.flatMap vtc)) (hsm : n≤1000000) (hl : ∀ v ∈ l,ValidP v) :
  Calls Tryz.prog 43 #[.int .i64 M,p.val,.slice A n c] w0 (DecPostG M p l w0):=by
 obtain ⟨w,hw⟩ : ∃ wa,wa = w0.alloc (.cells p.cells 24):=⟨_,rfl⟩
 have hb0 : Below w0.heap.size w0 w:=by rw [hw]; exact (Below.refl _ _).alloc (Nat.le_refl _) _
 have hBq : Blk w w0.heap.size 24 p.cells:=by rw [hw]; exact Blk.new w0 _ _
 obtain ⟨q,hq⟩ : ∃ q,q = w0.heap.size:=⟨_,rfl⟩
 have HN:=Lib.hid hn
 have HR:=Lib.hid ((hr.below hb0).more hb0.size)
 have HL:=Lib.hid hl
 have HW:=Lib.hid hw
 rw [← hq] at hBq
 have HBq:=Lib.hid hBq
 have hqw : q < w.heap.size:=hBq.lt
 have HQ:=Lib.hid hq
 have HHas : Hid (∀ (i : Nat) (W : World),i < 10→Calls Tryz.prog 19 #[.int .i64 M,.int .i64 (i : Int)] W fun e w' => e = .returned (.bool ((xOf M).testBit i))∧w' = W):=fun i W hi => chas_any M i hi W
 have HOut : Hid (∀ (s : Nat) (W : World),Below w.heap.size w W→(xOf M).testBit s = true→Calls Tryz.prog 79 #[.int .i64 M,p.val,.slice A n c,.int .i64 (s : Int)] W (OutPostG M p s l W)):=fun s W hW hs => outG_any M p A n c l s W HN.out ((HR.out.below hW).more hW.size) hsm HL.out hs
 clear hn hr hl hw hBq hq
 go_enter Tryz.func43,Tryz.ntmps43
 go_upto_region 1 with fail
 simp only [← HW.out,← HQ.out]
 go_wp2
 go_loopw [8,11] (fun v iv wr => DecRelG M p l w v iv wr) (fun _ iv _ => 10 - (intOf iv).toNat)
 case atStart => exact ⟨0,[],rfl,Nat.zero_le _,Nat.le_refl _,⟨by simp [idsF],fun s hs => (List.not_mem_nil hs).elim⟩,⟨by simp,.inl ⟨rfl,rfl⟩⟩,Below.refl _ _⟩
 case round =>
  obtain ⟨i,L,rfl,hin,hLi,hL,hown,hbw⟩:=hrel
  have HLd:=Lib.hid hL
  have HOwn:=Lib.hid hown
  have y1 : rowAt wr q 0 8 = some p.cells:=(HBq.out.below hbw hqw).row 8 rfl
  clear hL hown
  by_cases hi : i < 10
  ·have di : decide ((i : Int) < 10) = true:=by simp; omega
   obtain ⟨k,hk⟩ : ∃ k,k = (xOf M).testBit i:=⟨_,rfl⟩
   have HK:=Lib.hid hk
   have HHi : Hid (∀ W,Calls Tryz.prog 19 #[.int .i64 M,.int .i64 (i : Int)] W fun e w' => e = .returned (.bool k)∧w' = W):=fun W => by rw [hk]; exact HHas.out i W hi
   clear hk
   go_wp2_with fail
   refine (HHi.out _).mono ?_
   rintro en w5' ⟨rfl,hw5'⟩
   replace hw5':=hw5'.symm
   subst hw5'
   cases k with
   | false =>
    go_wp2
    go_roundw
    case rel => exact ⟨i + 1,L,by go_num,by omega,by omega,⟨by rw [idsF_miss HK.out.symm]; exact HLd.out.1,HLd.out.2⟩,HOwn.out,hbw⟩
    case measure => simp [intOf]; omega
   | true =>
    go_wp2_with fail
    refine (HOut.out i _ hbw HK.out.symm).mono ?_
    rintro en w2 ⟨v2,L2,rfl,hG2,hl2,hown2,hb2⟩
    have hbw2 : Below w.heap.size w w2:=hbw.trans (hb2.mono hbw.size)
    have HOwn2 : Hid (w2.ownsRow w.heap.size 142 11 u8 L.length (L.flatMap occ)):=own_below HOwn.out hb2 (Nat.le_refl _)
    rcases own_tail hown2 with ⟨rfl,h0,_⟩ | ⟨g,cap,T,rfl,hg,hblk,hcap⟩
    ·have HG : Hid (OutG M p i l []):=by unfold Hid; rw [List.eq_nil_of_length_eq_zero h0] at hG2; exact hG2
     clear hG2 hown2 y1 hl2 h0
     go_wp2
     go_ret2
     exact ⟨_,[],false,rfl,⟨by simp,.inl ⟨rfl,rfl⟩⟩,hb0.trans (hbw2.mono hb0.size),by simp,.inr ⟨rfl,.inl ⟨i,hi,HK.out.symm,HG.out⟩⟩⟩
    ·rcases L2 with _ | ⟨x,L2⟩
     ·have HG:=Lib.hid hG2
      clear hG2 hown2 y1 hl2 hblk
      simp only [List.length_nil]
      go_wp2
      go_ret2
      exact ⟨_,[],false,rfl,⟨by simp,.inl ⟨rfl,rfl⟩⟩,hb0.trans (hbw2.mono hb0.size),by simp,.inr ⟨rfl,.inl ⟨i,hi,HK.out.symm,HG.out⟩⟩⟩
     ·have x3 : rowAt w2 g 0 11 = some x.cells:=by
       have h:=RowE.oc (T:=T) (w0:=w2) (i:=0) ⟨hblk,one_refl w2 g⟩ (show (x :: L2)[0]? = some x from rfl)
       simpa using h
      have HX : Hid (x.slot = (i : Int)∧∃ L',OutG M p x.slot.toNat l (x :: L')):=by
       have hs : x.slot = (i : Int):=by obtain ⟨O2,_,h2,_⟩:=hG2; exact (h2 x List.mem_cons_self).1
       exact ⟨hs,L2,by rw [hs]; exact hG2⟩
      obtain ⟨m,hm⟩ : ∃ m,m = (x :: L2).length:=⟨_,rfl⟩
      have hm0 : 0 < m:=by rw [hm]; simp
      rw [← hm] at hcap ⊢
      have dm : ((m : Int) == 0) = false:=by simp; omega
      clear hG2 hown2 hl2 hblk hm y1
      go_wp2_with ((first
       | (refine wpList_build1 rfl 103 142 (.tmp 29) rfl x.cells rfl Tryz.underlying103 (by kernel_rfl) (by decide) (by decide) ?_)
       | (at_builtin; refine wpList_app rfl (.tmp 26) (.tmp 30) _ rfl w.heap.size 142 (.agg Oc.zero.cells) 11 32 Tryz.underlying103 info_oc rfl (by decide) u8 L.length (L.flatMap occ) rfl ?r0 (w2.heap.size + 1) (some ⟨w2.heap.size,0,none⟩) 1 1 (occ x) rfl ?r1 ?r2 ?r3 ?r4 ?r5 ?r6 ?_)))
      case r0 => exact HOwn2.out.alloc _
      case r1 => rfl
      case r2 => exact Rd.mk (by omega) (fun j u hu => by rw [Nat.zero_add,(Blk.new w2 _ _).cell]; simpa using hu)
      case r3 => exact fun u hu => one_oc x hu
      case r4 => omega
      case r5 => unfold maxLen; omega
      case r6 => have:=hbw2.size; simp; omega
      intro v7 w7 hown7 hg7 hat7
      have hbw7 : Below w.heap.size w w7:=below_own (hbw2.alloc hbw2.size _) (HOwn2.out.alloc _) hg7
      have HOwn7:=Lib.hid hown7
      clear hown7 hg7 hat7 x3 HOwn2
      go_wp2
      go_roundw
      case rel =>
       refine ⟨i + 1,L ++ [x],by go_num,by omega,by rw [List.length_append]; simp; omega,⟨?_,?_⟩,?_,hbw7⟩
       ·rw [idsF_hit HK.out.symm,List.map_append,List.map_append,HLd.out.1]
        simp [HX.out.1]
       ·intro t ht
        rcases List.mem_append.1 ht with ht | ht
        ·exact HLd.out.2 t ht
        ·rw [List.mem_singleton.1 ht]; exact HX.out.2
       ·have h:=HOwn7.out
        rw [List.length_append,List.flatMap_append]
        simpa using h
      case measure => simp [intOf]; omega
  ·have di : decide ((i : Int) < 10) = false:=by simp; omega
   have hi10 : i = 10:=by omega
   have HI:=Lib.hid hi10
   obtain ⟨A1,c1,rfl,hc1⟩ : ∃ A1 c1,u8 = .slice A1 L.length c1∧True:=by
    rcases HOwn.out.2 with ⟨rfl,h0⟩ | ⟨g,cap,cur,rfl,_⟩
    ·exact ⟨none,0,by rw [h0],trivial⟩
    ·exact ⟨_,cap,rfl,trivial⟩
   clear hi10 hc1
   obtain ⟨m,hm⟩ : ∃ m,m = L.length:=⟨_,rfl⟩
   rw [← hm]
   have HM:=Lib.hid hm
   clear hm
   go_wp2
   go_ret2
   refine ⟨_,L,_,rfl,by have h:=own_base HOwn.out hb0.size; rw [← HM.out] at h ⊢; exact h,hb0.trans (hbw.mono hb0.size),by omega,?_⟩
   unfold DecG
   rw [← HM.out]
   by_cases hz : 0 < m
   ·exact .inl ⟨by simpa using hz,by have h:=HLd.out; rw [HI.out] at h; exact h,hz⟩
   ·refine .inr ⟨by simpa using hz,.inr ?_⟩
    have h:=HLd.out.1
    rw [HI.out] at h
    have h2:=congrArg List.length h
    rw [List.length_map,List.length_map,← HM.out] at h2
    exact List.eq_nil_of_length_eq_zero (by omega)
end
section
open Go.RowKit
attribute [local go_sem ↓] Go.wp_at_zero Go.wp_at_succ loadNm loadVt loadSg loadEv
attribute [local go_sem] runNm runVt runSg runEv pickRow_some rowAt_drew rowAt_drewN
def DecP (G : GmS) (P P' : PrS) : Prop:=∃ (v : Value) (d : List Ch) (ok : Bool),P' = { P with dv:=v,dec:=d,dd:=ok }∧((P.dd = true∧P' = P)∨(P.dd = false∧∃ L,L.length≤10∧DecG G.M G.par P.D L ok∧d = L.map chOf))
def DecTo (j : Nat) (G G' : GmS) : Prop:=∃ ps',G' = { G with ps:=ps' }∧ps'.length = G.ps.length∧∀ (i b : Nat) (P' : PrS),ps'[i]? = some (b,P')→∃ P,G.ps[i]? = some (b,P)∧(if i < j then DecP G P P' else P' = P)
theorem DecTo.zero (G : GmS) : DecTo 0 G G:=⟨G.ps,rfl,rfl,fun i b P' h => ⟨P',h,by rw [if_neg (by omega)]⟩⟩
theorem DecTo.stay {j b : Nat} {G G' : GmS} {P' : PrS} (h : DecTo j G G') (hj : G'.ps[j]? = some (b,P')) (hd : P'.dd = true) : DecTo (j + 1) G G':=by
 obtain ⟨ps',rfl,hl,h⟩:=h
 refine ⟨ps',rfl,hl,fun i b' Q hi => ?_⟩
 obtain ⟨P,hP,hx⟩:=h i b' Q hi
 refine ⟨P,hP,?_⟩
 by_cases h1 : i < j
 ·rw [if_pos h1] at hx
  rw [if_pos (by omega)]
  exact hx
 ·rw [if_neg h1] at hx
  by_cases h2 : i = j
  ·subst h2
   rw [show ({ G with ps:=ps' } : GmS).ps = ps' from rfl,hi] at hj
   injection hj with hj
   injection hj with hj hj'
   subst hj'
   rw [if_pos (by omega)]
   subst hx
   exact ⟨_,_,_,rfl,.inl ⟨hd,rfl⟩⟩
  ·rw [if_neg (by omega)]
   exact hx
theorem DecTo.turn {j b : Nat} {G G' : GmS} {P' : PrS} {v : Value} {L : List Oc} {ok : Bool} (h : DecTo j G G') (hj : G'.ps[j]? = some (b,P')) (hd : P'.dd = false) (hL : DecG G.M G.par P'.D L ok) (hl10 : L.length≤10) : DecTo (j + 1) G (G'.setP j b { P' with dv:=v,dec:=L.map chOf,dd:=ok }):=by
 obtain ⟨ps',rfl,hl,h⟩:=h
 refine ⟨ps'.set j (b,{ P' with dv:=v,dec:=L.map chOf,dd:=ok }),rfl,by rw [List.length_set]; exact hl,fun i b' Q hi => ?_⟩
 rcases set_get hi with ⟨rfl,e⟩ | ⟨hne,hi⟩
 ·injection e with e1 e2
  subst e1
  obtain ⟨P,hP,hx⟩:=h j b' P' hj
  rw [if_neg (by omega)] at hx
  subst hx
  exact ⟨P',hP,by rw [if_pos (by omega)]; exact ⟨v,_,ok,e2,.inr ⟨hd,L,hl10,hL,rfl⟩⟩⟩
 ·obtain ⟨P,hP,hx⟩:=h i b' Q hi
  refine ⟨P,hP,?_⟩
  by_cases h1 : i < j
  ·rw [if_pos h1] at hx
   rw [if_pos (by omega)]
   exact hx
  ·rw [if_neg h1] at hx
   rw [if_neg (by omega)]
   exact hx
theorem DecTo.keep {j : Nat} {G G' : GmS} (h : DecTo j G G') : G'.ps.length = G.ps.length∧G'.M = G.M∧G'.par = G.par∧G'.pv = G.pv∧∀ (i b : Nat) (P' : PrS),G'.ps[i]? = some (b,P')→∃ P,G.ps[i]? = some (b,P)∧P'.L = P.L:=by
 obtain ⟨ps',rfl,hl,h⟩:=h
 refine ⟨hl,rfl,rfl,rfl,fun i b P' hi => ?_⟩
 obtain ⟨P,hP,hx⟩:=h i b P' hi
 refine ⟨P,hP,?_⟩
 by_cases h1 : i < j
 ·rw [if_pos h1] at hx
  obtain ⟨v,d,ok,rfl,_⟩:=hx
  rfl
 ·rw [if_neg h1] at hx
  rw [hx]
def GoodG (G : GmS) : Prop:=G.ps.length≤1000∧∀ (i b : Nat) (P : PrS),G.ps[i]? = some (b,P)→P.L.length≤1000000∧∀ x ∈ P.L,ValidP x.vote
def DoPost (Bs g : Nat) (Inv : GmS→Prop) (w : World) (e : Ending) (w' : World) : Prop :=
 e = .returned (.int .i64 0)∧Below Bs w w'∧∃ G' G'',Inv G'∧DecTo G'.ps.length G' G''∧GmAt Bs w' g G''
theorem own_form2 {w : World} {base e size n : Nat} {v : Value} {xs : List Value} (h : w.ownsRow base e size v n xs) : ∃ A c,v = .slice A n c:=own_form h
theorem PrAt.decd {Bs b : Nat} {w w' : World} {P : PrS} {v : Value} {d : List Ch} {ok : Bool} (h : PrAt Bs w b P) (hw : w' = (w.setCell ⟨b,12,none⟩ v).setCell ⟨b,13,none⟩ (.bool ok)) (ho : w.ownsRow Bs 88 9 v d.length (d.flatMap chc)) : PrAt Bs w' b { P with dv:=v,dec:=d,dd:=ok }∧w.grownBy w' (some b):=by
 have hg : w.grownBy w' (some b):=by
  rw [hw]
  exact (one_put (p:=⟨b,12,none⟩) (one_refl w b) rfl _).trans (one_put (p:=⟨b,13,none⟩) (one_refl _ b) rfl _)
 refine ⟨⟨?_,own_off h.row hg (.blk h.blk (by decide)),fun s hs => (h.sgs s hs).off hg (.blk h.blk (by decide)),own_off ho hg (.blk h.blk (by decide))⟩,hg⟩
 rw [hw]
 exact (h.blk.put 12 v).put 13 _
set_option maxRecDepth 100000 in
set_option maxHeartbeats 16000000 in
theorem do_act {Bs g p b : Nat} {w : World} {G : GmS} {P : PrS} (s : Stp) (Inv : GmS→Prop) (h : GmAt Bs w g G) (hBs : Bs≤w.heap.size) (hk : s.kind = 1) (hsp : s.process = (p : Int)) (hp : G.ps[p]? = some (b,P))
  (hA : ∀ V,GmAt Bs V g G→Bs≤V.heap.size→Calls Tryz.prog 39 #[ptrV g,ptrV b] V fun e w' => e = .returned (.tuple #[])∧Below Bs V w'∧∃ G',GmAt Bs w' g G'∧Inv G') (hgd : ∀ G',Inv G'→GoodG G') :
  Calls Tryz.prog 22 #[ptrV g,s.val] w (DoPost Bs g Inv w):=by
 obtain ⟨w1,hw1⟩ : ∃ w1,w1 = w.alloc (.cells s.cells 48):=⟨_,rfl⟩
 have hb1 : Below w.heap.size w w1:=by rw [hw1]; exact (Below.refl _ _).alloc (Nat.le_refl _) _
 obtain ⟨q,hq⟩ : ∃ q,q = w.heap.size:=⟨_,rfl⟩
 have hQ1 : Blk w1 q 48 s.cells:=by rw [hw1,hq]; exact Blk.new w _ _
 have h1 : GmAt Bs w1 g G:=h.below hb1
 have hb01 : Below Bs w w1:=hb1.mono hBs
 have hBs1 : Bs≤w1.heap.size:=Nat.le_trans hBs hb01.size
 obtain ⟨pb,pc,_,y1,y2,hpn⟩:=h1.pcells hp
 obtain ⟨n,hn⟩ : ∃ n,n = G.ps.length:=⟨_,rfl⟩
 rw [← hn] at y1 hpn
 have y3 : w1.cell? ⟨q,0,none⟩ = some (.int .i64 1):=by rw [← hk]; exact hQ1.cell 0
 have y4 : w1.cell? ⟨q,1,none⟩ = some (.int .i64 (p : Int)):=by rw [← hsp]; exact hQ1.cell 1
 have HM:=Lib.hid (member_yes h1 hp)
 have HA : Hid (∀ V,Below w1.heap.size w1 V→Calls Tryz.prog 39 #[ptrV g,ptrV b] V fun e w' => e = .returned (.tuple #[])∧Below Bs V w'∧∃ G',GmAt Bs w' g G'∧Inv G'):=fun V hV => hA V (h1.below hV) (Nat.le_trans hBs1 hV.size)
 have HGd:=Lib.hid hgd
 have HW1:=Lib.hid hw1
 have HQ:=Lib.hid hq
 have hpi : (p : Int) < (n : Int):=by omega
 have dm : decide ((P.mem : Int) < 0) = false:=by simp
 clear h hp hA hgd hw1 hq hQ1 h1 hb1 hn hk hsp hpn
 go_enter Tryz.func22,Tryz.ntmps22
 go_upto_region 3 with fail
 simp only [← HW1.out,← HQ.out]
 go_upto_block 0 with fail
 go_cut [5] (fun _ wx => ∃ G',GmAt Bs wx g G'∧Inv G'∧Below Bs w wx)
 case first =>
  go_upto_region 8 with (go_at_call 20; refine HM.out.mono ?_; rintro en w2 ⟨rfl,hw2⟩; replace hw2:=hw2.symm; subst hw2)
  go_still_tail 9,(by kernel_rfl)
  change wpList _ _ _ _ _ w1.drew
  go_wp2_with (go_at_call 39; refine (HA.out _ (Below.refl w1.heap.size w1).drew).mono ?_; rintro en w4 ⟨rfl,hb4,G4,hG4,hI4⟩; have HG4:=Lib.hid hG4; have HI4:=Lib.hid hI4; clear hG4 hI4)
  go_meet
  exact ⟨G4,HG4.out,HI4.out,(hb01.trans (Below.refl _ _).drew).trans hb4⟩
 case rest =>
  clear HA HM y1 y2 y3 y4
  obtain ⟨G3,hG3,hI3,hb03⟩:=hcut
  generalize wc = w3 at *
  have hBs3 : Bs≤w3.heap.size:=Nat.le_trans hBs hb03.size
  obtain ⟨A3,pc3,hpv3⟩:=own_form2 hG3.prow
  obtain ⟨n3,hn3⟩ : ∃ n,n = G3.ps.length:=⟨_,rfl⟩
  rw [← hn3] at hpv3
  have y1 : w3.cell? ⟨g,11,none⟩ = some (.slice A3 n3 pc3):=by rw [← hpv3]; exact hG3.blk.cell 11
  have HGo:=Lib.hid (HGd.out G3 hI3)
  have hn31 : n3≤1000:=by rw [hn3]; exact HGo.out.1
  obtain ⟨M,hM⟩ : ∃ M,M = G3.M:=⟨_,rfl⟩
  obtain ⟨par,hpar⟩ : ∃ p,p = G3.par:=⟨_,rfl⟩
  have HG3:=Lib.hid hG3
  have HI3:=Lib.hid hI3
  have HN3:=Lib.hid hn3
  have HM:=Lib.hid hM
  have HPa:=Lib.hid hpar
  have HPv:=Lib.hid hpv3
  clear hG3 hI3 hn3 hM hpar hpv3
  go_wp2
  go_loopw [57] (fun iv wr => ∃ (j : Nat) (G' : GmS),iv = .int .i64 (j : Int)∧j≤n3∧GmAt Bs wr g G'∧DecTo j G3 G'∧Below Bs w3 wr) (fun iv _ => n3 - (intOf iv).toNat)
  case atStart => exact ⟨0,G3,rfl,Nat.zero_le _,HG3.out,DecTo.zero G3,Below.refl _ _⟩
  case round =>
   obtain ⟨j,G4,rfl,hjn,hG4,hT4,hb34⟩:=hrel
   have hb04 : Below Bs w wr:=hb03.trans hb34
   have hBs4 : Bs≤wr.heap.size:=Nat.le_trans hBs hb04.size
   by_cases hj : j < n3
   ·have dj : decide ((j : Int) < (n3 : Int)) = true:=by simp; omega
    obtain ⟨e1,e2,e3,e4,e5⟩:=hT4.keep
    obtain ⟨⟨b4,P4⟩,hP4⟩ : ∃ x,G4.ps[j]? = some x:=⟨_,List.getElem?_eq_getElem (by rw [e1,← HN3.out]; exact hj)⟩
    obtain ⟨pb,pc,hpv,z1,z2,_⟩:=hG4.pcells hP4
    rw [e4,HPv.out] at hpv
    injection hpv with hpv hq1 hq2
    subst hpv
    clear z1 hq1 hq2
    have z3 : wr.cell? ⟨b4,13,none⟩ = some (.bool P4.dd):=(hG4.prs _ _ hP4).1.blk.cell 13
    have hgood : P4.L.length≤1000000∧∀ x ∈ P4.L,ValidP x.vote:=by
     obtain ⟨P,hP,hL⟩:=e5 j b4 P4 hP4
     rw [hL]
     exact HGo.out.2 j b4 P hP
    have HG4:=Lib.hid hG4
    have HT4:=Lib.hid hT4
    have HP4:=Lib.hid hP4
    have HGood:=Lib.hid hgood
    have HE:=Lib.hid (And.intro e2 e3)
    obtain ⟨d,hd⟩ : ∃ d,d = P4.dd:=⟨_,rfl⟩
    rw [← hd] at z3
    have HD:=Lib.hid hd
    clear hG4 hT4 hP4 hgood e1 e2 e3 e4 e5 hd
    go_upto_region 18 with fail
    cases d with
    | true =>
     go_wp2
     go_roundw
     case rel => exact ⟨j + 1,G4,by go_num,by omega,HG4.out,HT4.out.stay HP4.out HD.out.symm,hb34⟩
     case measure => simp [intOf]; omega
    | false =>
     obtain ⟨w4,hw4⟩ : ∃ w4,w4 = wr:=⟨_,rfl⟩
     rw [← hw4] at HG4 hb34 hb04 hBs4 z2 z3 ⊢
     clear hw4
     obtain ⟨D,hD⟩ : ∃ D,D = P4.D:=⟨_,rfl⟩
     have hDl : D.length≤1000000:=by
      rw [hD]
      show ((canF _).map _).length≤_
      rw [List.length_map]
      have:=canF_len (P4.L.map Sg.vs)
      rw [List.length_map] at this
      have:=HGood.out.1
      omega
     have HVt : Hid (∀ V,Below w4.heap.size w4 V→Calls Tryz.prog 44 #[ptrV b4] V (VtPost V D)):=fun V hV => by rw [hD]; exact hvotes_any ((HG4.out.below hV).prs _ _ HP4.out).1 HGood.out.1
     have HDc : Hid (∀ V A c',Below w4.heap.size w4 V→Rd V V.heap.size A (D.flatMap vtc)→Calls Tryz.prog 43 #[.int .i64 M,par.val,.slice A D.length c'] V (DecPostG M par D V)):=fun V A c' hV hR => decdG_any M par A D.length c' D V rfl hR hDl (by rw [hD]; exact PrS.D_valid HGood.out.2)
     have HX : Hid (∀ V,Below w4.heap.size w4 V→V.cell? ⟨g,0,none⟩ = some (.int .i64 M)∧rowAt V g 2 8 = some par.cells):=fun V hV => by
      rw [HM.out,HPa.out,← HE.out.1,← HE.out.2]
      exact ⟨(HG4.out.below hV).blk.cell 0,(HG4.out.below hV).row_par⟩
     have HDe:=Lib.hid hD
     clear hD
     go_upto_region 19 with fail
     refine rgD (fun V => V.cell? ⟨g,0,none⟩ = some (.int .i64 M)∧rowAt V g 2 8 = some par.cells) (HX.out _ (Below.refl w4.heap.size w4).drew) fun hHeld => ?_
     refine tkD 67 0 ?_
     go_frame
     refine tkD 68 1 ?_
     go_frame
     refine tkD 69 2 ?_
     go_frame
     refine tkD 70 3 ?_
     go_frame
     refine tkD 71 4 ?_
     go_frame
     refine tkD 72 5 ?_
     go_frame
     refine tkD 73 6 ?_
     go_frame
     refine tkD 74 7 ?_
     go_frame
     refine tkD 75 8 ?_
     go_frame
     refine tkD 76 9 ?_
     go_frame
     refine tkD 77 10 ?_
     go_frame
     refine rd1 11 fun K hK => ?_
     go_simp
     refine (HVt.out _ (Below.refl w4.heap.size w4).drew).mono ?_; rintro en w5 ⟨v5,rfl,hb5,hown5⟩; obtain ⟨A5,c5,rfl,hR5⟩:=own_shape hown5; have HR5:=Lib.hid hR5; have hb45 : Below w4.heap.size w4 w5:=((Below.refl w4.heap.size w4).drew).trans (hb5.mono (Below.size (Below.refl w4.heap.size w4).drew)); clear hown5 hR5 hb5
     go_wp2_with fail
     refine hK.out _ _ (HX.out _ hb45) (fun hHeld => ?_)
     clear hK K
     try go_frame
     refine rd1 12 fun K hK => ?_
     go_simp
     refine (HDc.out w5 A5 c5 hb45 HR5.out).mono ?_; rintro en w6 ⟨v6,L,ok,rfl,hown6,hb6,hL10,hdec⟩; obtain ⟨A6,c6,rfl,hR6⟩:=own_shape hown6; have HR6:=Lib.hid hR6; have HDec:=Lib.hid hdec; have hb46 : Below w4.heap.size w4 w6:=hb45.trans (hb6.mono hb45.size); clear hown6 hR6 hb6 hdec
     go_wp2_with fail
     refine hK.out _ _ (HX.out _ hb46) (fun hHeld => ?_)
     clear hK K
     try go_frame
     refine tkD 66 13 ?_
     go_frame
     refine tkD 80 14 ?_
     go_frame
     refine tkD 81 15 ?_
     go_frame
     refine tkD 8 16 ?_
     go_frame
     refine tkD 9 17 ?_
     go_frame
     refine dnD ?_
     obtain ⟨m,hm⟩ : ∃ m,L.length = m:=⟨_,rfl⟩
     have HCh:=Lib.hid (chc_any A6 m c6 L w6 hm HR6.out (by omega))
     rw [hm]
     have HMl:=Lib.hid hm
     have hG6:=HG4.out.below hb46
     have HG6:=Lib.hid hG6
     have hBs6 : Bs≤w6.heap.size:=Nat.le_trans hBs4 hb46.size
     clear hm hG6
     go_upto_region 21 with (go_at_call 45; refine HCh.out.mono ?_; rintro en w7 ⟨v7,rfl,hown7,hb7⟩; have hP7:=(HG6.out.below hb7).prs _ _ HP4.out; have k1 : w7.cell? ⟨b4,12,none⟩ = some P4.dv:=hP7.1.blk.cell 12; have k2 : w7.frozen? ⟨b4,12,none⟩ = false:=hP7.1.blk.frozen 12; have k3 : w7.cell? ⟨b4,13,none⟩ = some (.bool P4.dd):=hP7.1.blk.cell 13; have k4 : w7.frozen? ⟨b4,13,none⟩ = false:=hP7.1.blk.frozen 13; obtain ⟨A7,c7,rfl⟩:=own_form hown7; have HOwn7:=Lib.hid hown7; have HP7:=Lib.hid hP7; clear hown7 hP7)
     have hbB4 : Bs≤b4:=HP7.out.2
     have hd7:=HP7.out.1.decd (v:=.slice A7 (L.map chOf).length c7) (d:=L.map chOf) (ok:=ok) rfl (own_base (by simpa using HOwn7.out) hBs6)
     have hG7:=(HG6.out.below hb7).setP HP4.out hd7.2 hd7.1
     have hb37:=((hb34.trans (hb46.mono hBs4)).trans (hb7.mono hBs6)).grown hd7.2 (Nat.le_trans hBs6 hb7.size) (fun k hk => by injection hk with hk; subst hk; exact hbB4)
     have hT7 : DecTo (j + 1) G3 _:=HT4.out.turn (v:=.slice A7 (L.map chOf).length c7) (L:=L) (ok:=ok) HP4.out HD.out.symm (by rw [← HM.out,← HPa.out,← HDe.out]; exact HDec.out) hL10
     have HG7:=Lib.hid hG7
     have HT7:=Lib.hid hT7
     clear hG7 hT7 hd7
     go_wp2
     go_roundw
     case rel => exact ⟨j + 1,_,by go_num,by omega,by simpa using HG7.out,by simpa using HT7.out,by simpa using hb37⟩
     case measure => simp [intOf]; omega
   ·have dj : decide ((j : Int) < (n3 : Int)) = false:=by simp; omega
    have hjn' : j = G3.ps.length:=by rw [← HN3.out]; omega
    have HT4 : Hid (DecTo G3.ps.length G3 G4):=by unfold Hid; rw [← hjn']; exact hT4
    have HG4:=Lib.hid hG4
    clear hT4 hG4 hjn'
    go_wp2
    go_ret
    exact ⟨rfl,hb04,G3,G4,HI3.out,HT4.out,HG4.out⟩
end
section

section
variable (p a : Nm)
def a1 : Vt:=⟨1,0,0,1,0,0,p,a⟩
def a2 : Vt:=⟨2,0,0,1,0,0,p,a⟩
def a3 : Vt:=⟨3,0,1,1,0,1,p,a⟩
def a4 : Vt:=⟨4,0,1,1,0,1,p,a⟩
def aL : Nat→List Vt
 | 0 => []
 | 1 => [a1 p a]
 | 2 => [a1 p a,a2 p a]
 | 3 => [a1 p a,a2 p a,a3 p a]
 | _ => [a1 p a,a2 p a,a3 p a,a4 p a]
theorem aL_sp (k : Nat) : spF 0 p (aL p a k) = aL p a k:=by
 match k with
 | 0 | 1 | 2 | 3 | k + 4 => simp [aL,spF,a1,a2,a3,a4]
theorem aL_sl (k : Nat) : slB 0 (aL p a k) = aL p a k:=by
 match k with
 | 0 | 1 | 2 | 3 | k + 4 => simp [aL,slB,a1,a2,a3,a4]
theorem aL_slF (k : Nat) : slF 0 (aL p a k) = aL p a k:=by
 match k with
 | 0 | 1 | 2 | 3 | k + 4 => simp [aL,slF,a1,a2,a3,a4]
theorem aL_asc (k : Nat) : ascF p (aL p a k) = aL p a k:=by
 match k with
 | 0 | 1 | 2 | 3 | k + 4 =>
  unfold ascF
  rw [canF_asc]
  ·simp [aL,a1,a2,a3,a4]
  ·simp [aL,a1,a2,a3,a4,ascL,lessV]
theorem aL_acc (k : Nat) : accF 1 (aL p a k) = aL p a k:=by
 have e1 : accB 1 [] (a1 p a) = true:=by simp [accB,allowB,a1]; decide
 have e2 : accB 1 [a1 p a] (a2 p a) = true:=by simp [accB,allowB,a1,a2,pProp,sameB]; decide
 have e3 : accB 1 [a1 p a,a2 p a] (a3 p a) = true:=by
  have i1 : idsF (xOf 1) 10 = [0]:=by decide
  simp [accB,allowB,prevB,supB,pEcho,sameB,a1,a2,a3,i1]; exact ⟨by decide,decide_eq_true (by decide),decide_eq_true (by decide)⟩
 have e4 : accB 1 [a1 p a,a2 p a,a3 p a] (a4 p a) = true:=by
  have i1 : idsF (xOf 1) 10 = [0]:=by decide
  simp [accB,allowB,supB,pRndS,pRnd,sameB,a1,a2,a3,a4,i1]; exact ⟨by decide,decide_eq_true (by decide),decide_eq_true (by decide)⟩
 match k with
 | 0 => rfl
 | 1 => simp [aL,accF,e1]
 | 2 => simp [aL,accF,e1,e2]
 | 3 => simp [aL,accF,e1,e2,e3]
 | k + 4 => simp [aL,accF,e1,e2,e3,e4]
theorem aL_smP (k : Nat) : SmP p (aL p a k):=by
 match k with
 | 0 | 1 | 2 | 3 | k + 4 => simp [aL,SmP,a1,a2,a3,a4]
theorem aL_smO (k : Nat) : SmO p (aL p a k):=by
 match k with
 | 0 | 1 | 2 | 3 | k + 4 => simp [aL,SmO,a1,a2,a3,a4]
end
section
variable {p a : Nm}
theorem aL_all {k : Nat} {O : List Vt} (h : AccG 1 p ((0 : Nat) : Int) (slB 0 (aL p a k)) O) : O = aL p a k:=by
 rw [aL_sl] at h
 have:=h.2 (aL_smP p a k)
 rwa [aL_asc,aL_acc] at this
theorem aL_all' {k : Nat} {O : List Vt} (h : AccG 1 p ((0 : Nat) : Int) (spF 0 p (aL p a k)) O) : O = aL p a k:=by
 rw [aL_sp,← aL_sl] at h
 exact aL_all h
theorem aL_none {k : Nat} {L : List Oc} (hk : k≤3) (h : OutG 1 p 0 (aL p a k) L) : L = []:=by
 obtain ⟨O,hO,hL,_⟩:=h
 rcases L with _ | ⟨o,L⟩
 ·rfl
 obtain ⟨w,hw,h4,_⟩:=out_some (hL o List.mem_cons_self).2 (by decide)
 have hm:=(hO.2 w hw).1
 match k,hk with
 | 0,_ => simp [aL] at hm
 | 1,_ => simp [aL] at hm; subst hm; simp [a1] at h4
 | 2,_ => simp [aL] at hm; rcases hm with rfl | rfl <;> simp [a1,a2] at h4
 | 3,_ => simp [aL] at hm; rcases hm with rfl | rfl | rfl <;> simp [a1,a2,a3] at h4
theorem aL_some {L : List Oc} (h : OutG 1 p 0 (aL p a 4) L) : kyO 0 (a4 p a) ∈ L:=by
 obtain ⟨O,_,_,hx⟩:=h
 obtain ⟨e,hx⟩:=hx (aL_smO p a 4)
 rw [aL_slF,aL_asc,aL_acc] at e
 subst e
 rcases hx (a4 p a) (by simp [aL]) rfl (by simp [a4]) with h | ⟨S,h1,h2⟩
 ·exact h
 ·exfalso
  have h0 : S.testBit 0 = true:=h1 (a4 p a) (by simp [aL]) rfl (by simp [a4]) rfl
  have h3 : popF 1 10≤popF (xOf (S : Int)) 10:=popF_mono (fun i hi hb => by
   have hi0 : i = 0:=by
    rcases Nat.eq_zero_or_pos i with h | h
    ·exact h
    ·rw [show (1 : Nat) = 2 ^ 0 from rfl,Nat.testBit_two_pow] at hb
     simp at hb; omega
   subst hi0
   have e : xOf (S : Int) = S % 2 ^ 10:=by unfold xOf; omega
   rw [e,Nat.testBit_mod_two_pow,h0]
   rfl) 10 (Nat.le_refl _)
  have h4 : popF 1 10 = 1:=by decide
  have h5 : quoF (popF (xOf 1) 10) = 1:=by decide
  omega
theorem low1 : lowF 1 1 = 1:=by decide
theorem pop1 : popF 1 10 = 1:=by decide
theorem pop0 : popF 0 10 = 0:=by decide
theorem sgs1 (k : Nm) : sgsF (pK 1 k) (aL p a 1) = if a = k then 1 else 0:=by
 by_cases h : a = k <;> simp [sgsF,pK,aL,a1,h]
theorem sgs2 (k : Nm) : sgsF (pK 2 k) (aL p a 2) = if a = k then 1 else 0:=by
 by_cases h : a = k <;> simp [sgsF,pK,aL,a1,a2,h]
theorem sgs3 (x : Vl) : sgsF (pV 3 1 x) (aL p a 3) = if Vl.mk 1 a = x then 1 else 0:=by
 by_cases h : Vl.mk 1 a = x <;> simp [sgsF,pV,pW,vlOf,aL,a1,a2,a3,h]
theorem val3 {x : Vl} (h : IsVal 3 1 (aL p a 3) x) : x = ⟨1,a⟩:=by
 obtain ⟨v,hv,h1,_,_,rfl⟩:=h
 simp [aL] at hv
 rcases hv with rfl | rfl | rfl
 ·simp [a1] at h1
 ·simp [a2] at h1
 ·rfl
theorem val3' : IsVal 3 1 (aL p a 3) ⟨1,a⟩:=⟨a3 p a,by simp [aL],rfl,rfl,by simp [a3],rfl⟩
theorem ow_aL (k : Nat) (kd r : Int) : owF 0 p 0 (aL p a k) kd r = (aL p a k).any fun x => decide (x.signer = 0) && (decide (x.kind = kd) && decide (x.round = r)):=by
 unfold owF; rw [aL_sp]
theorem has1 : ((0 : Int)≤0∧(0 : Int)≤9)∧(xOf 1).testBit (0 : Int).toNat = true:=by decide
theorem due1 {wt : Bool} {o : Option Vt} (ha : ¬ a = Nm.zero) (h : NextR 1 1 p 0 0 (aL p a 1) [a] wt o) : o = some (a2 p a):=by
 have no : ¬ EchoR 1 p 0 0 (spF 0 p (aL p a 1)) [a] (owF 0 p 0 (aL p a 1)) none:=by
  rintro (h | ⟨O,L,hO,hL,hn⟩)
  ·rw [ow_aL] at h; simp [aL,a1] at h
  ·rw [aL_sp] at hO
   have:=aL_all hO
   subst this
   refine hn a ((hL a).2 ⟨ha,?_⟩) List.mem_cons_self
   rw [sgs1,if_pos rfl,pop1]
   exact Nat.le_refl _
 rcases o with _ | v
 ·rcases h with h | h | ⟨L,h,hn⟩ | ⟨_,h,_⟩
  ·exact absurd has1 h
  ·exact absurd h (by decide)
  ·exact absurd (aL_none (by omega) h) hn
  ·exact absurd h no
 ·obtain ⟨_,_,_,h | ⟨h,_⟩⟩:=h
  ·obtain ⟨_,O,k,hO,h0,h1,_,rfl⟩:=h
   rw [aL_sp] at hO
   have:=aL_all hO
   subst this
   rw [sgs1] at h1
   by_cases hk : a = k
   ·subst hk; rfl
   ·rw [if_neg hk,pop0] at h1; omega
  ·exact absurd h no
theorem due2 {H : List Nm} {wt : Bool} {o : Option Vt} (ha : ¬ a = Nm.zero) (h : NextR 1 1 p 0 0 (aL p a 2) H wt o) : o = some (a3 p a):=by
 have asg : ∀ O,AccG 1 p ((0 : Nat) : Int) (slB 0 (spF 0 p (aL p a 2))) O→¬ AscG 2 1 O []:=by
  intro O hO hL
  rw [aL_sp] at hO
  have:=aL_all hO
  subst this
  have:=(hL a).2 ⟨ha,by rw [sgs2,if_pos rfl,pop1]; exact Nat.le_refl _⟩
  cases this
 have no : ¬ FirstR 1 1 p 0 0 (spF 0 p (aL p a 2)) wt (owF 0 p 0 (aL p a 2)) none:=by
  rintro (h | ⟨_,O,hO,hL⟩)
  ·rw [ow_aL] at h; simp [aL,a1,a2] at h
  ·exact asg O hO hL
 rcases o with _ | v
 ·rcases h with h | h | ⟨L,h,hn⟩ | ⟨_,_,h,_⟩
  ·exact absurd has1 h
  ·exact absurd h (by decide)
  ·exact absurd (aL_none (by omega) h) hn
  ·exact absurd h no
 ·obtain ⟨_,_,_,h | ⟨_,h | ⟨h,_⟩⟩⟩:=h
  ·obtain ⟨h,_⟩:=h
   rw [ow_aL] at h; simp [aL,a1,a2] at h
  ·obtain ⟨_,⟨O,O',k,hO,hO',h0,h1,rfl⟩ | ⟨_,⟨O,hO,hL⟩,_⟩⟩:=h
   ·rw [aL_sp] at hO hO'
    have:=aL_all hO
    subst this
    have:=aL_all hO'
    subst this
    rw [sgs2] at h1
    by_cases hk : a = k
    ·subst hk
     rw [sgs2,if_pos rfl,low1]; rfl
    ·rw [if_neg hk,pop0] at h1; omega
   ·exact absurd hL (asg O hO)
  ·exact absurd h no
theorem due3 {H : List Nm} {wt : Bool} {o : Option Vt} (h : NextR 1 1 p 0 0 (aL p a 3) H wt o) : o = some (a4 p a):=by
 have no : ∀ O,AccG 1 p ((0 : Nat) : Int) (spF 0 p (aL p a 3)) O→¬ PrecR 1 p 0 0 O (owF 0 p 0 (aL p a 3)) 1 none:=by
  rintro O hO (h | h | ⟨h,_⟩)
  ·rw [ow_aL] at h; simp [aL,a1,a2,a3] at h
  ·rw [ow_aL] at h; simp [aL,a1,a2,a3] at h
  ·have:=aL_all' hO
   subst this
   have:=h _ val3'
   rw [sgs3,if_pos rfl,pop1] at this
   omega
 rcases o with _ | v
 ·rcases h with h | h | ⟨L,h,hn⟩ | ⟨_,_,_,O,hO,h⟩
  ·exact absurd has1 h
  ·exact absurd h (by decide)
  ·exact absurd (aL_none (by omega) h) hn
  ·exact absurd (h 1 (by omega) (by omega)) (no O hO)
 ·obtain ⟨_,_,_,h | ⟨_,h | ⟨_,O,r,hO,h1,h2,hr,h⟩⟩⟩:=h
  ·obtain ⟨h,_⟩:=h
   rw [ow_aL] at h; simp [aL,a1,a2,a3] at h
  ·obtain ⟨h,_⟩:=h
   rw [ow_aL] at h; simp [aL,a1,a2,a3] at h
  ·have hr1 : r = 1:=by
    rcases Int.lt_or_le 1 r with h | h
    ·exact absurd (hr 1 (by omega) h) (no O hO)
    ·omega
   subst hr1
   rcases h with h | ⟨_,h,_⟩
   ·have:=aL_all' hO
    subst this
    obtain ⟨_,_,⟨x,hx,h1,rfl⟩ | ⟨h,_⟩⟩:=h
    ·have:=val3 hx
     subst this
     rw [sgs3,if_pos rfl,low1]; rfl
    ·have:=h _ val3'
     rw [sgs3,if_pos rfl,pop1] at this
     omega
   ·exact absurd h (no O hO)
theorem due4 {H : List Nm} {wt : Bool} {o : Option Vt} (h : NextR 1 1 p 0 0 (aL p a 4) H wt o) : o = none:=by
 rcases o with _ | v
 ·rfl
 ·obtain ⟨_,_,h,_⟩:=h
  have:=aL_some h
  cases this
end
end
end Go.Proofs.YtadllffeoibelaaGreat
