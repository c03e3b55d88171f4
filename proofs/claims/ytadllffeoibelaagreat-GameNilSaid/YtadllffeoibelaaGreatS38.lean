/-
  What these parts of the proof come to, functions walked and plain laws: Br3, Vecho, Low. No condition.
-/
import Derived.Test.YtadllffeoibelaaGreatS36
import Derived.Test.YtadllffeoibelaaGreatS9
import Derived.Test.YtadllffeoibelaaGreatS37
import Derived.Test.YtadllffeoibelaaGreatS12
import Derived.Test.YtadllffeoibelaaGreatS28
namespace Go.Proofs.YtadllffeoibelaaGreat
section
open Go.RowKit Go.Shelf
attribute [local go_sem ↓] Go.wp_at_zero Go.wp_at_succ loadNm loadVt loadSg loadEv
attribute [local go_sem] runNm runVt runSg runEv pickRow_some rowAt_drew rowAt_drewN
def NmsPost (M : Int) (p : Nm) (s : Nat) (kd : Int) (n : Nat) (l : List Vt) (w : World) (e : Ending) (w' : World) : Prop :=
 ∃ (v : Value) (O : List Vt) (L : List Nm),e = .returned v∧AccG M p (s : Int) (slB s l) O∧AscG kd n O L∧L.length≤l.length∧w'.ownsRow w.heap.size 24 8 v L.length (L.flatMap nmc)∧Below w.heap.size w w'
theorem popF_in {a i : Nat} : ∀ n,i < n→a.testBit i = true→0 < popF a n
 | 0,h,_ => by omega
 | n + 1,h,hb => by
  rw [popF_step]
  by_cases e : i = n
  ·subst e
   rw [hb]
   simp
  ·have:=popF_in n (by omega) hb
   omega
theorem has_pos {M : Int} {s : Nat} (hs : (xOf M).testBit s = true) : 0 < popF (xOf M) 10:=by
 refine popF_in 10 ?_ hs
 rcases Nat.lt_or_ge s 10 with h | h
 ·exact h
 ·rw [Nat.testBit_lt_two_pow (Nat.lt_of_lt_of_le (xOf_lt M) (show 2 ^ 10≤2 ^ s from Nat.pow_le_pow_right (by decide) h))] at hs
  cases hs
set_option maxRecDepth 100000 in
set_option maxHeartbeats 4000000 in
theorem props_any (M : Int) (p : Nm) (A : Option Addr) (n c : Nat) (l : List Vt) (s : Nat) (w0 : World) (hn : l.length = n) (hr : Rd w0 w0.heap.size A (l.flatMap vtc)) (hsm : n≤1000000) (hl : ∀ v ∈ l,ValidP v) (hs : (xOf M).testBit s = true) :
  Calls Tryz.prog 205 #[.int .i64 M,p.val,.slice A n c,.int .i64 (s : Int)] w0 (NmsPost M p s 1 1 l w0):=by
 obtain ⟨w,hw⟩ : ∃ wa,wa = w0.alloc (.cells p.cells 24):=⟨_,rfl⟩
 have hb0 : Below w0.heap.size w0 w:=by rw [hw]; exact (Below.refl _ _).alloc (Nat.le_refl _) _
 have hBq : Blk w w0.heap.size 24 p.cells:=by rw [hw]; exact Blk.new w0 _ _
 obtain ⟨q,hq⟩ : ∃ q,q = w0.heap.size:=⟨_,rfl⟩
 rw [← hq] at hBq
 have HSg:=Lib.hid (signers_any M p A n c l s 1 w hn ((hr.below hb0).more hb0.size) hsm hl hs)
 have HN:=Lib.hid hn
 have hN6 : l.length≤1000000:=by omega
 have HW:=Lib.hid hw
 have HQ:=Lib.hid hq
 have y1 : rowAt w q 0 8 = some p.cells:=hBq.row 8 rfl
 clear hn hr hl hs hw hBq hq
 go_enter Tryz.func205,Tryz.ntmps205
 go_upto_region 1 with fail
 simp only [← HW.out,← HQ.out]
 go_wp2_with (first
  | (go_at_call 250; refine HSg.out.mono ?_; rintro en w3 ⟨m,O,kl,rfl,hO,hOn,hbr,hmp,hm0,hb3⟩; have HO:=Lib.hid hO; have HAsc:=Lib.hid (ascN_any 1 1 O m kl w3 (fun v hv => (hO.1.2 v hv).2.1.1.2.1) (by omega) (Nat.le_refl _) hbr hmp); clear hbr hmp hO)
  | (go_at_call 249; refine HAsc.out.mono ?_; rintro en w4 ⟨v4,L,rfl,hA,hLn,hown,hb4⟩; have HA:=Lib.hid hA; have HOwn:=Lib.hid hown; clear hA hown))
 go_ret
 have hb3':=hb0.trans (hb3.mono hb0.size)
 exact ⟨v4,O,L,rfl,HO.out,HA.out,by omega,own_base HOwn.out hb3'.size,hb3'.trans (hb4.mono hb3'.size)⟩
set_option maxRecDepth 100000 in
set_option maxHeartbeats 4000000 in
theorem certs_any (M : Int) (p : Nm) (A : Option Addr) (n c : Nat) (l : List Vt) (s : Nat) (w0 : World) (hn : l.length = n) (hr : Rd w0 w0.heap.size A (l.flatMap vtc)) (hsm : n≤1000000) (hl : ∀ v ∈ l,ValidP v) (hs : (xOf M).testBit s = true) :
  Calls Tryz.prog 207 #[.int .i64 M,p.val,.slice A n c,.int .i64 (s : Int)] w0 (NmsPost M p s 2 (quoF (popF (xOf M) 10)) l w0):=by
 obtain ⟨w,hw⟩ : ∃ wa,wa = w0.alloc (.cells p.cells 24):=⟨_,rfl⟩
 have hb0 : Below w0.heap.size w0 w:=by rw [hw]; exact (Below.refl _ _).alloc (Nat.le_refl _) _
 have hBq : Blk w w0.heap.size 24 p.cells:=by rw [hw]; exact Blk.new w0 _ _
 obtain ⟨q,hq⟩ : ∃ q,q = w0.heap.size:=⟨_,rfl⟩
 rw [← hq] at hBq
 have HSg:=Lib.hid (signers_any M p A n c l s 2 w hn ((hr.below hb0).more hb0.size) hsm hl hs)
 have HN:=Lib.hid hn
 have hN6 : l.length≤1000000:=by omega
 have HW:=Lib.hid hw
 have HQ:=Lib.hid hq
 have y1 : rowAt w q 0 8 = some p.cells:=hBq.row 8 rfl
 have hq1 : 1≤quoF (popF (xOf M) 10):=quo_pos (has_pos hs)
 have HSz : Hid (∀ W,Calls Tryz.prog 15 #[.int .i64 M] W fun e w' => e = .returned (.int .i64 ((popF (xOf M) 10 : Nat) : Int))∧w' = W):=fun W => csizeM_any M W
 have HQu : Hid (∀ W,Calls Tryz.prog 115 #[.int .i64 ((popF (xOf M) 10 : Nat) : Int)] W fun e w' => e = .returned (.int .i64 ((quoF (popF (xOf M) 10) : Nat) : Int))∧w' = W):=fun W => quorum_any _ (popF_le _ _) W
 obtain ⟨a,ha⟩ : ∃ a,a = popF (xOf M) 10:=⟨_,rfl⟩
 rw [← ha] at hq1 HSz HQu ⊢
 obtain ⟨b,hb⟩ : ∃ b,b = quoF a:=⟨_,rfl⟩
 rw [← hb] at hq1 HQu ⊢
 have HQ1:=Lib.hid hq1
 clear hn hr hl hs hw hBq hq ha hb hq1
 go_enter Tryz.func207,Tryz.ntmps207
 go_upto_region 1 with fail
 simp only [← HW.out,← HQ.out]
 go_wp2_with (first
  | (go_at_call 250; refine HSg.out.mono ?_; rintro en w3 ⟨m,O,kl,rfl,hO,hOn,hbr,hmp,hm0,hb3⟩; have HO:=Lib.hid hO; have HAsc:=Lib.hid (ascN_any 2 b O m kl w3 (fun v hv => (hO.1.2 v hv).2.1.1.2.1) (by omega) (HQ1.out) hbr hmp); clear hbr hmp hO)
  | (go_at_call 15; refine (HSz.out _).mono ?_; rintro en w5 ⟨rfl,hw5⟩; replace hw5:=hw5.symm; subst hw5)
  | (go_at_call 115; refine (HQu.out _).mono ?_; rintro en w6 ⟨rfl,hw6⟩; replace hw6:=hw6.symm; subst hw6)
  | (go_at_call 249; refine HAsc.out.mono ?_; rintro en w4 ⟨v4,L,rfl,hA,hLn,hown,hb4⟩; have HA:=Lib.hid hA; have HOwn:=Lib.hid hown; clear hA hown))
 go_ret
 have hb3':=hb0.trans (hb3.mono hb0.size)
 exact ⟨v4,O,L,rfl,HO.out,HA.out,by omega,own_base HOwn.out hb3'.size,hb3'.trans (hb4.mono hb3'.size)⟩
def EchoersPost (M : Int) (p : Nm) (s : Nat) (l : List Vt) (k : Nm) (w : World) (e : Ending) (w' : World) : Prop :=
 ∃ (O : List Vt),e = .returned (.int .i64 ((sgsF (pK 2 k) O : Nat) : Int))∧AccG M p (s : Int) (slB s l) O∧Below w.heap.size w w'
set_option maxRecDepth 100000 in
set_option maxHeartbeats 4000000 in
theorem echoers_any (M : Int) (p : Nm) (A : Option Addr) (n c : Nat) (l : List Vt) (s : Nat) (k : Nm) (w0 : World) (hn : l.length = n) (hr : Rd w0 w0.heap.size A (l.flatMap vtc)) (hsm : n≤1000000) (hl : ∀ v ∈ l,ValidP v) (hs : (xOf M).testBit s = true) :
  Calls Tryz.prog 208 #[.int .i64 M,p.val,.slice A n c,.int .i64 (s : Int),k.val] w0 (EchoersPost M p s l k w0):=by
 obtain ⟨w,hw⟩ : ∃ wa,wa = w0.alloc (.cells p.cells 24):=⟨_,rfl⟩
 have hb0 : Below w0.heap.size w0 w:=by rw [hw]; exact (Below.refl _ _).alloc (Nat.le_refl _) _
 have hBq : Blk w w0.heap.size 24 p.cells:=by rw [hw]; exact Blk.new w0 _ _
 obtain ⟨q,hq⟩ : ∃ q,q = w0.heap.size:=⟨_,rfl⟩
 rw [← hq] at hBq
 have hqw : q < w.heap.size:=hBq.lt
 obtain ⟨w2,hw2⟩ : ∃ wa,wa = w.alloc (.cells k.cells 24):=⟨_,rfl⟩
 have hb2 : Below w0.heap.size w0 w2:=by rw [hw2]; exact hb0.alloc hb0.size _
 obtain ⟨z,hz⟩ : ∃ z,z = w0.heap.size + 1:=⟨_,rfl⟩
 have hs1 : w.heap.size = w0.heap.size + 1:=by rw [hw]; simp
 have hBz : Blk w2 z 24 k.cells:=by rw [hw2,hz,← hs1]; exact Blk.new w _ _
 have hBq2 : Blk w2 q 24 p.cells:=by rw [hw2]; exact hBq.alloc _
 have HRows : Hid (∀ V,Below w2.heap.size w2 V→rowAt V q 0 8 = some p.cells∧rowAt V z 0 8 = some k.cells):=fun V hV => ⟨(hBq2.below hV hBq2.lt).row 8 rfl,(hBz.below hV hBz.lt).row 8 rfl⟩
 have HSg : Hid (∀ V,Below w2.heap.size w2 V→Calls Tryz.prog 250 #[.int .i64 M,p.val,.slice A n c,.int .i64 (s : Int),.int .i64 2] V (SgsPost M p s 2 l V)):=fun V hV => signers_any M p A n c l s 2 V hn ((hr.below (hb2.trans (hV.mono hb2.size))).more (Nat.le_trans hb2.size hV.size)) hsm hl hs
 have HW:=Lib.hid hw
 have HW2:=Lib.hid hw2
 have HQ:=Lib.hid hq
 have HZ:=Lib.hid hz
 have hbx : Below w2.heap.size w2 w2:=Below.refl _ _
 clear hn hr hl hs hw hBq hq hw2 hz hBz hBq2 hs1 hqw
 go_enter Tryz.func208,Tryz.ntmps208
 go_upto_region 1 with fail
 simp only [← HW.out,← HW2.out,← HZ.out]
 simp only [← HQ.out]
 refine rgD (fun V => rowAt V q 0 8 = some p.cells∧rowAt V z 0 8 = some k.cells) (HRows.out _ hbx.drew) fun hHeld => ?_
 refine tkD 11 0 ?_
 go_frame
 refine tkD 12 1 ?_
 go_frame
 refine tkD 13 2 ?_
 go_frame
 refine tkD 14 3 ?_
 go_frame
 refine tkD 16 5 ?_
 go_frame
 refine rd1 4 fun K hK => ?_
 go_simp
 refine (HSg.out _ hbx.drew).mono ?_; rintro en w3 ⟨m,O,kl,rfl,hO,hOn,hbr,hmp,hm0,hb3⟩; have hbx3:=hbx.drew.trans (hb3.mono (Nat.le_refl _)); have HO:=Lib.hid hO; obtain ⟨S,hS⟩ : ∃ S,S = sgsF (pK 2 k) O:=⟨_,rfl⟩; have HLk : Hid ((alook k kl).getD (.int .i64 0) = .int .i64 (S : Int)):=by (unfold Hid; rw [hS]; exact hbr.1 k)
 have HS:=Lib.hid hS; have HMp:=Lib.hid hmp; clear hO hbr hmp hb3 hS
 go_wp2_with fail
 refine hK.out _ _ (HRows.out _ hbx3) (fun hHeld => ?_)
 clear hK K
 try go_frame
 refine rd1 6 fun K hK => ?_
 rw [if_pos (by rfl)]
 refine wp_ranv (.int .i64 (S : Int)) ((run_lookN (.tmp 15) (.tmp 16) rfl m k rfl rfl HMp.out).trans (by rw [HLk.out])) ?_
 refine hK.out _ _ (HRows.out _ hbx3) (fun hHeld => ?_)
 clear hK K
 try go_frame
 refine tkD 10 7 ?_
 go_frame
 refine dnD ?_
 go_wp2
 go_ret
 exact ⟨O,by rw [← HS.out]; simp,HO.out,hb2.trans (hbx3.mono hb2.size)⟩
end
section
open Go.RowKit Go.Shelf
attribute [local go_sem ↓] Go.wp_at_zero Go.wp_at_succ loadNm loadVt loadSg loadEv loadVl
attribute [local go_sem] runNm runVt runSg runEv runVl pickRow_some rowAt_drew rowAt_drewN
theorem own_shape {w : World} {base e size n : Nat} {v : Value} {xs : List Value} (h : w.ownsRow base e size v n xs) : ∃ A c,v = .slice A n c∧Rd w w.heap.size A xs:=by
 rcases h.2 with ⟨rfl,h0⟩ | ⟨g,cap,cur,rfl,_⟩
 ·exact ⟨none,0,by rw [h0],.inl (List.eq_nil_of_length_eq_zero (by rw [h.1,h0,Nat.zero_mul]))⟩
 ·exact ⟨_,cap,rfl,Rd.of_own h⟩
def optV : Option Vt→Array Value
 | none => zeroVc
 | some v => v.cells
def OptPost (R : Option Vt→Prop) (w : World) (e : Ending) (w' : World) : Prop:=∃ o : Option Vt,e = .returned (.tuple #[.agg (optV o),.bool o.isSome])∧R o∧Below w.heap.size w w'
set_option maxRecDepth 100000 in
set_option maxHeartbeats 8000000 in
theorem echo_any {w : World} {b : Nat} {M q f : Int} {s : Nat} {p : Nm} {A : Option Addr} {c mo : Nat} {O : List Vt} {ow : Int→Int→Bool} (h : VrAt w b M q (s : Int) f p A c mo O ow)
  (A' : Option Addr) (n' c' : Nat) (l : List Vt) (hn : l.length = n') (hr : Rd w w.heap.size A' (l.flatMap vtc)) (hsm : n'≤1000000) (hl : ∀ v ∈ l,ValidP v) (hs : (xOf M).testBit s = true)
  (AH : Option Addr) (nH cH : Nat) (H : List Nm) (hnH : H.length = nH) (hrH : Rd w w.heap.size AH (H.flatMap nmc)) (hsmH : nH≤1000000) :
  Calls Tryz.prog 160 #[.pointer (some ⟨b,0,none⟩),.slice A' n' c',.slice AH nH cH] w (OptPost (EchoR M p s f l H ow) w):=by
 obtain ⟨w1,hw1⟩ : ∃ w1,w1 = w.alloc (.cells zeroVc 46):=⟨_,rfl⟩
 have hb1 : Below w.heap.size w w1:=by rw [hw1]; exact (Below.refl _ _).alloc (Nat.le_refl _) _
 obtain ⟨g,hg⟩ : ∃ g,g = w.heap.size:=⟨_,rfl⟩
 have hG1 : Blk w1 g 46 zeroVc:=by rw [hw1,hg]; exact Blk.new w _ _
 have hgw : w.heap.size≤g:=by omega
 have hV1:=h.below hb1
 have HV : Hid (∀ V,Below w1.heap.size w1 V→VrAt V b M q (s : Int) f p A c mo O ow):=fun V hV => hV1.below hV
 have HG : Hid (∀ V,Below w1.heap.size w1 V→Blk V g 46 zeroVc):=fun V hV => hG1.below hV hG1.lt
 have HS : Hid (∀ V,Below w1.heap.size w1 V→V.cell? ⟨b,0,none⟩ = some (.int .i64 M)∧rowAt V b 4 8 = some p.cells∧V.cell? ⟨b,2,none⟩ = some (.int .i64 (s : Int))):=fun V hV => ⟨(hV1.below hV).blk.cell 0,(hV1.below hV).row_parent,(hV1.below hV).blk.cell 2⟩
 have HSgd:=Lib.hid (signed_any hV1 2 0)
 have HPr : Hid (∀ V,Below w1.heap.size w1 V→Calls Tryz.prog 205 #[.int .i64 M,p.val,.slice A' n' c',.int .i64 (s : Int)] V (NmsPost M p s 1 1 l V)):=fun V hV => props_any M p A' n' c' l s V hn ((hr.below (hb1.trans (hV.mono hb1.size))).more (Nat.le_trans hb1.size hV.size)) hsm hl hs
 have HRH : Hid (∀ V,Below w1.heap.size w1 V→Rd V w.heap.size AH (H.flatMap nmc)):=fun V hV => hrH.below (hb1.trans (hV.mono hb1.size))
 have hN6 : l.length≤1000000:=by omega
 have HNH:=Lib.hid hnH
 have HB1:=Lib.hid hb1
 have HW1:=Lib.hid hw1
 have HGg:=Lib.hid hg
 obtain ⟨d,hd⟩ : ∃ d,d = ow 2 0:=⟨_,rfl⟩
 rw [← hd] at HSgd
 have hbx : Below w1.heap.size w1 w1:=Below.refl _ _
 clear h hn hr hsm hl hs hnH hrH hw1 hb1 hg hG1 hV1
 go_enter Tryz.func160,Tryz.ntmps160
 go_upto_region 1 with fail
 simp only [← HW1.out,← HGg.out]
 cases d with
 | true =>
  have HD:=Lib.hid hd.symm
  clear hd
  go_wp2_with (first
   | (go_at_call 204; refine HSgd.out.mono ?_; rintro en w2 ⟨rfl,hw2⟩; replace hw2:=hw2.symm; subst hw2)
   | (refine wpList_store_blk rfl 46 (.tmp 6) (.tmp 14) rfl g zeroVc rfl rfl 46 zeroVc (HG.out _ hbx) rfl size_vt (fun u hu => one_zv hu) ?_; intro w9 hR9 hg9 hsz9))
  refine bodyPost_ret (results_row_tmp (g:=g) (cs:=zeroVc) rfl _ _ _ _ _ rfl hR9 Tryz.underlying46 rfl size_vt) rfl ⟨none,rfl,.inl HD.out,?_⟩
  exact HB1.out.grown hg9 HB1.out.size (fun k hk => by injection hk with hk; subst hk; exact hgw)
 | false =>
  have HD:=Lib.hid hd.symm
  clear hd
  go_upto_region 3 with (go_at_call 204; refine HSgd.out.mono ?_; rintro en w2 ⟨rfl,hw2⟩; replace hw2:=hw2.symm; subst hw2)
  refine rgD (fun V => V.cell? ⟨b,0,none⟩ = some (.int .i64 M)∧rowAt V b 4 8 = some p.cells∧V.cell? ⟨b,2,none⟩ = some (.int .i64 (s : Int))) (HS.out _ hbx.drew) fun hHeld => ?_
  refine tkD 15 0 ?_
  go_frame
  refine tkD 16 1 ?_
  go_frame
  refine tkD 17 2 ?_
  go_frame
  refine tkD 18 3 ?_
  go_frame
  refine tkD 19 4 ?_
  go_frame
  refine tkD 20 5 ?_
  go_frame
  refine tkD 21 6 ?_
  go_frame
  refine tkD 22 7 ?_
  go_frame
  refine tkD 23 8 ?_
  go_frame
  refine tkD 24 9 ?_
  go_frame
  refine tkD 25 10 ?_
  go_frame
  refine tkD 26 11 ?_
  go_frame
  refine tkD 27 12 ?_
  go_frame
  refine tkD 30 15 ?_
  go_frame
  refine rd1 13 fun K hK => ?_
  go_simp
  refine (HPr.out _ hbx.drew).mono ?_; rintro en w3 ⟨v3,O3,L,rfl,hO3,hA3,hL3,hown3,hb3⟩; have hbx3:=hbx.drew.trans (hb3.mono (Nat.le_refl _)); obtain ⟨A3,c3,rfl,hR3⟩ : ∃ A1 c1,v3 = .slice A1 L.length c1∧Rd w3 w3.heap.size A1 (L.flatMap nmc):=(by
   rcases hown3.2 with ⟨rfl,h0⟩ | ⟨g',cap,cur,rfl,_⟩
   ·exact ⟨none,0,by rw [h0],.inl (List.eq_nil_of_length_eq_zero (by rw [hown3.1,h0,Nat.zero_mul]))⟩
   ·exact ⟨_,cap,rfl,Rd.of_own hown3⟩)
  have HR3:=Lib.hid hR3; have HO3:=Lib.hid hO3; have HA3:=Lib.hid hA3; obtain ⟨nL,hnL⟩ : ∃ nL,L.length = nL:=⟨_,rfl⟩; rw [hnL] at hL3 ⊢; have HNL:=Lib.hid hnL; clear hown3 hR3 hO3 hA3 hb3 hnL
  go_wp2_with fail
  refine hK.out _ _ (HS.out _ hbx3) (fun hHeld => ?_)
  clear hK K
  try go_frame
  refine tkD 29 14 ?_
  go_frame
  refine dnD ?_
  have hnL6 : nL≤1000000:=by omega
  go_wp2
  go_loopw [30] (fun iv wr => ∃ i : Nat,iv = .int .i64 (i : Int)∧i≤nL∧Below w3.heap.size w3 wr∧∀ k ∈ L.take i,¬ k ∈ H) (fun iv _ => nL - (intOf iv).toNat)
  case atStart => exact ⟨0,rfl,Nat.zero_le _,Below.refl _ _,fun k hk => by simp at hk⟩
  case round =>
   obtain ⟨i,rfl,hin,hbr,hno⟩:=hrel
   have HNo:=Lib.hid hno
   have hbxr:=hbx3.trans (hbr.mono hbx3.size)
   clear hno
   by_cases hi : i < nL
   ·have di : decide ((i : Int) < (nL : Int)) = true:=by simp; omega
    obtain ⟨x,hx⟩ : ∃ x,L[i]? = some x:=⟨_,List.getElem?_eq_getElem (by rw [HNL.out]; exact hi)⟩
    obtain ⟨g0,o,rfl,hb,hcell⟩:=HR3.out.cells (by intro e; have:=flat_length nmc 8 L (nmc_len L); rw [e,HNL.out] at this; simp at this; omega)
    clear hcell
    have x1 : rowAt wr g0 (o + i * 8) 8 = some x.cells:=(HR3.out.below hbr).row hx
    have HX:=Lib.hid hx
    clear hx
    go_upto_region 6 with fail
    obtain ⟨w4,hw4⟩ : ∃ w4,w4 = wr.alloc (.cells x.cells 24):=⟨_,rfl⟩
    rw [← hw4]
    have hB4 : Blk w4 wr.heap.size 24 x.cells:=by rw [hw4]; exact Blk.new wr _ _
    have hb4 : Below w3.heap.size w3 w4:=by rw [hw4]; exact hbr.alloc hbr.size _
    obtain ⟨z,hz⟩ : ∃ z,z = wr.heap.size:=⟨_,rfl⟩
    rw [← hz] at hB4 ⊢
    have HZ4 : Hid (∀ V,Below w4.heap.size w4 V→rowAt V z 0 8 = some x.cells):=fun V hV => (hB4.below hV hB4.lt).row 8 rfl
    clear hw4 hz hB4 x1
    go_wp2
    go_loopw [36] (fun iv wr => ∃ j : Nat,iv = .int .i64 (j : Int)∧j≤nH∧Below w4.heap.size w4 wr∧¬ x ∈ H.take j) (fun iv _ => nH - (intOf iv).toNat)
    case atStart => exact ⟨0,rfl,Nat.zero_le _,Below.refl _ _,by simp⟩
    case round =>
     obtain ⟨j,rfl,hjn,hby,hnx⟩:=hrel
     have HNx:=Lib.hid hnx
     have hby3:=hb4.trans (hby.mono hb4.size)
     have hbxy:=hbx3.trans (hby3.mono hbx3.size)
     clear hnx
     by_cases hj : j < nH
     ·have dj : decide ((j : Int) < (nH : Int)) = true:=by simp; omega
      obtain ⟨k,hk⟩ : ∃ k,H[j]? = some k:=⟨_,List.getElem?_eq_getElem (by rw [HNH.out]; exact hj)⟩
      obtain ⟨g1,o1,rfl,hb',hcell⟩:=(HRH.out _ hbx).cells (by intro e; have:=flat_length nmc 8 H (nmc_len H); rw [e,HNH.out] at this; simp at this; omega)
      clear hcell
      have x2 : rowAt wr g1 (o1 + j * 8) 8 = some k.cells:=(HRH.out _ hbxy).row hk
      have HK:=Lib.hid hk
      clear hk
      go_upto_region 9 with fail
      obtain ⟨w5,hw5⟩ : ∃ w5,w5 = wr.alloc (.cells k.cells 24):=⟨_,rfl⟩
      rw [← hw5]
      have hB5 : Blk w5 wr.heap.size 24 k.cells:=by rw [hw5]; exact Blk.new wr _ _
      have hb5 : Below w4.heap.size w4 w5:=by rw [hw5]; exact hby.alloc hby.size _
      obtain ⟨z5,hz5⟩ : ∃ z,z = wr.heap.size:=⟨_,rfl⟩
      rw [← hz5] at hB5 ⊢
      have x5 : rowAt w5 z5 0 8 = some k.cells:=hB5.row 8 rfl
      have x4 : rowAt w5 z 0 8 = some x.cells:=HZ4.out _ hb5
      have hb53:=hb4.trans (hb5.mono hb4.size)
      have hbx5:=hbx3.trans (hb53.mono hbx3.size)
      clear hw5 hz5 hB5 x2 hbxy hby3
      by_cases he : k = x
      ·have e9 : ∀ W,(Op.equalIn 10000 24 (.agg k.cells) (.agg x.cells)).run Tryz.prog W = .ok true W:=fun W => by
        have h:=eqNm k x W 9998
        rwa [decide_eq_true he] at h
       obtain ⟨v,hv⟩ : ∃ v : Vt,v = Vt.mk 2 (s : Int) 0 1 f 0 p x:=⟨_,rfl⟩
       have HVo : Hid (∀ V,Below w1.heap.size w1 V→Calls Tryz.prog 206 #[.pointer (some ⟨b,0,none⟩),.int .i64 2,.int .i64 0,(Vl.mk 1 x).val,.int .i64 0] V (fun e w' => e = .returned (.tuple #[v.val,.bool true])∧Below V.heap.size V w')):=fun V hV => by rw [hv]; exact vvote_any (HV.out V hV) 2 0 (Vl.mk 1 x) 0
       have HVv:=Lib.hid hv
       have HE:=Lib.hid he
       clear he hv
       go_wp2_with (first
        | (refine Great.wpList_readTo rfl (some 45) rfl (Vl.mk 1 x).val (run_buildVl 1 x (.const (.int .i64 1)) (.tmp 44) rfl rfl rfl _) ?_)
        | (go_at_call 206; refine (HVo.out _ hbx5).mono ?_; rintro en w7 ⟨rfl,hb7⟩; have hbx7:=hbx5.trans (hb7.mono hbx5.size))
        | (refine wpList_store_blk rfl 46 (.tmp 6) (.tmp 47) rfl g v.cells rfl rfl 46 zeroVc (HG.out _ hbx7) rfl size_vt (fun u hu => one_vt _ hu) ?_; intro w9 hR9 hg9 hsz9))
       have hb07:=HB1.out.trans (hbx7.mono HB1.out.size)
       refine bodyPost_ret (results_row_tmp (g:=g) (cs:=v.cells) rfl _ _ _ _ _ rfl hR9 Tryz.underlying46 rfl size_vt) rfl ⟨some v,rfl,⟨HD.out,O3,x,HO3.out,((HA3.out x).1 (List.mem_of_getElem? HX.out)).1,((HA3.out x).1 (List.mem_of_getElem? HX.out)).2,by rw [← HE.out]; exact List.mem_of_getElem? HK.out,HVv.out⟩,?_⟩
       exact hb07.grown hg9 hb07.size (fun k hk => by injection hk with hk; subst hk; exact hgw)
      ·have e9 : ∀ W,(Op.equalIn 10000 24 (.agg k.cells) (.agg x.cells)).run Tryz.prog W = .ok false W:=fun W => by
        have h:=eqNm k x W 9998
        rwa [decide_eq_false he] at h
       have HE:=Lib.hid he
       clear he
       go_wp2
       go_roundw
       case rel =>
        refine ⟨j + 1,by go_num,by omega,hb5,fun hm => ?_⟩
        rw [List.take_add_one,HK.out,Option.toList_some] at hm
        rcases List.mem_append.1 hm with hm | hm
        ·exact HNx.out hm
        ·exact HE.out (List.mem_singleton.1 hm).symm
       case measure => simp [intOf]; omega
     ·have dj : decide ((j : Int) < (nH : Int)) = false:=by simp; omega
      go_wp2
      go_roundw
      case rel =>
       refine ⟨i + 1,by go_num,by omega,hby3,fun k hk => ?_⟩
       rw [List.take_add_one,HX.out,Option.toList_some] at hk
       rcases List.mem_append.1 hk with hk | hk
       ·exact HNo.out k hk
       ·rw [List.mem_singleton.1 hk]
        have hnx:=HNx.out
        rwa [List.take_of_length_le (by rw [HNH.out]; omega)] at hnx
      case measure => simp [intOf]; omega
   ·have di : decide ((i : Int) < (nL : Int)) = false:=by simp; omega
    have hall : ∀ k ∈ L,¬ k ∈ H:=by
     have h:=HNo.out
     rwa [List.take_of_length_le (by rw [HNL.out]; omega)] at h
    have HAll:=Lib.hid hall
    clear hall
    have hb0r:=HB1.out.trans (hbxr.mono HB1.out.size)
    go_wp2_with (refine wpList_store_blk rfl 46 (.tmp 6) (.tmp 51) rfl g zeroVc rfl rfl 46 zeroVc (HG.out _ hbxr) rfl size_vt (fun u hu => one_zv hu) ?_; intro w9 hR9 hg9 hsz9)
    refine bodyPost_ret (results_row_tmp (g:=g) (cs:=zeroVc) rfl _ _ _ _ _ rfl hR9 Tryz.underlying46 rfl size_vt) rfl ⟨none,rfl,.inr ⟨O3,L,HO3.out,HA3.out,HAll.out⟩,?_⟩
    exact Below.grown (hb0r) hg9 (Below.size (hb0r)) (fun k hk => by injection hk with hk; subst hk; exact hgw)
end
section
open Go.RowKit Go.Shelf
attribute [local go_sem] Oper.semAt_some
theorem idsF_pre (s : Nat) : ∀ (d i : Nat),∃ t,idsF s (i + d) = idsF s i ++ t
 | 0,i => ⟨[],by simp⟩
 | d + 1,i => by
  obtain ⟨t,ht⟩:=idsF_pre s d i
  cases hb : s.testBit (i + d) with
  | true => exact ⟨t ++ [i + d],by rw [← Nat.add_assoc,idsF_hit hb,ht,List.append_assoc]⟩
  | false => exact ⟨t,by rw [← Nat.add_assoc,idsF_miss hb,ht]⟩
theorem take_ids {s i k : Nat} (hi : i≤10) (hk : k≤(idsF s i).length) : (idsF s 10).take k = (idsF s i).take k:=by
 obtain ⟨t,ht⟩:=idsF_pre s (10 - i) i
 rw [show i + (10 - i) = 10 by omega] at ht
 rw [ht,List.take_append_of_le_length hk]
abbrev vals (pre : List (Fin 10)) : List Nat:=pre.map (·.val)
theorem vals_len (pre : List (Fin 10)) : (vals pre).length = pre.length:=List.length_map _
theorem vals_le (pre : List (Fin 10)) : ∀ i ∈ vals pre,i≤9:=fun i hi => by
 obtain ⟨x,_,rfl⟩:=List.mem_map.1 hi
 have:=x.2
 omega
set_option maxRecDepth 100000 in
set_option maxHeartbeats 1000000 in
theorem low_iter (n : Nat) (hn : 1≤n) (l Bn n₀ : Nat) (M : Int) (J Jx : List (Fin 10)→World→Prop)
  (hY : ∀ (pre : List (Fin 10)) (x : Fin 10) (W : World),J pre W→pre.length < 10→YieldAt Fence.wide (n - 1) Tryz.prog l #[.int .i64 (x.val : Int)] W fun e W' =>
   (e = .returned (.bool true)∧J (pre ++ [x]) W'∧IdKeep n₀ Bn W W')∨(e = .returned (.bool false)∧Jx (pre ++ [x]) W'))
  (W : World) (hB : Boxed W Bn 22 (.int .i64 M)) (h0 : J [] W) :
  CallsIn Fence.wide n Tryz.prog 128 #[.func (.yield l) #[] #[],.pointer (some ⟨Bn,0,none⟩)] W fun e W' => (∃ v,e = .returned v) ∧
   ((∃ ys,vals ys = idsF (xOf M) 10∧J ys W')∨(∃ pre,(∃ i,i≤10∧vals pre = idsF (xOf M) i)∧Jx pre W')):=by
 have HH:=Lib.hid (fun i (hi : i < 10) W => chas_any M i hi W)
 refine callsIn_of_wp Tryz.func128 rfl trivial ?_ rfl
 simp only [Tryz.ntmps128,List.size_toArray,List.length_cons,List.length_nil,Nat.reduceAdd,Nat.reduceSub,Array.replicate_succ,Array.replicate_zero,List.push_toArray,List.append_toArray,List.nil_append,List.cons_append]
 gi_wp2
 gi_loopw [4] (fun iv wr => ∃ (i : Nat) (pre : List (Fin 10)),iv = .int .i64 (i : Int)∧i≤10∧vals pre = idsF (xOf M) i∧Boxed wr Bn 22 (.int .i64 M)∧J pre wr) (fun iv _ => 10 - (intOf iv).toNat)
 case atStart => exact ⟨0,[],rfl,by omega,rfl,hB,h0⟩
 case round =>
  obtain ⟨i,pre,rfl,hin,hpre,hbox,hJ⟩:=hrel
  have hcell:=hbox.cell
  by_cases hi : i < 10
  ·have di : decide ((i : Int) < 10) = true:=by simp; omega
   have H:=Lib.hid (HH.out i hi)
   cases hb : (xOf M).testBit i with
   | true =>
    rw [hb] at H
    have hids : vals (pre ++ [⟨i,hi⟩]) = idsF (xOf M) (i + 1):=by rw [idsF_hit hb,← hpre]; simp [vals]
    have HIds:=Lib.hid hids
    clear hids
    obtain ⟨fn,tmps,assign,body,hy,hR⟩:=hY pre ⟨i,hi⟩ wr hJ (by have:=idsF_len (xOf M) i; rw [← hpre,vals_len] at this; omega)
    gi_wp2_with (refine ⟨trivial,?_⟩; gi_at_call 19; refine (callsIn_wide.2 (H.out _)).mono ?_; rintro en w2 ⟨rfl,hw2⟩; replace hw2:=hw2.symm; subst hw2)
    refine hR.mono ?_
    rintro e W3 (⟨rfl,hJ3,hk3⟩ | ⟨rfl,hx3⟩)
    ·have hbox3 : Boxed W3 Bn 22 (.int .i64 M):=hk3.2.trans hbox
     gi_wp2
     gi_wp2
     go_roundw
     case rel => exact ⟨i + 1,_,by go_num,by omega,HIds.out,hbox3,hJ3⟩
     case measure => simp [intOf]; omega
    ·gi_wp2
     refine bodyPost_ret (results_none rfl _ _ _) rfl ?_
     exact ⟨⟨_,rfl⟩,.inr ⟨_,⟨i + 1,by omega,HIds.out⟩,hx3⟩⟩
   | false =>
    rw [hb] at H
    have HIds:=Lib.hid (hpre.trans (idsF_miss hb).symm)
    gi_wp2_with (refine ⟨trivial,?_⟩; gi_at_call 19; refine (callsIn_wide.2 (H.out _)).mono ?_; rintro en w2 ⟨rfl,hw2⟩; replace hw2:=hw2.symm; subst hw2)
    refine ⟨fun _ h => (by cases h),?_⟩
    gi_wp2
    go_roundw
    case rel => exact ⟨i + 1,pre,by go_num,by omega,HIds.out,hbox,hJ⟩
    case measure => simp [intOf]; omega
  ·have di : decide ((i : Int) < 10) = false:=by simp; omega
   have hi10 : i = 10:=by omega
   subst hi10
   gi_wp2
   go_end0
   exact ⟨⟨_,rfl⟩,.inl ⟨_,hpre,hJ⟩⟩
theorem low_stops (n : Nat) (hn : 1≤n) (Bn n₀ : Nat) (M : Int) (w : World) (hBn : Boxed w Bn 22 (.int .i64 M)) :
  SeqStopsK Fence.wide n Tryz.prog 128 #[.pointer (some ⟨Bn,0,none⟩)] (fun x : Fin 10 => #[Value.int .i64 (x.val : Int)]) (IdKeep n₀ Bn) (fun ys => vals ys = idsF (xOf M) 10) (fun pre => ∃ i,i≤10∧vals pre = idsF (xOf M) i) 10 w:=fun l J Jx W hW _ _ hY h0 =>
 low_iter n hn l Bn n₀ M J Jx hY W ((hW.block Bn hBn.lt).trans hBn) h0
set_option maxRecDepth 100000 in
set_option maxHeartbeats 4000000 in
theorem low_any (M : Int) (k : Nat) (hk : k≤10) (w : World) : Calls Tryz.prog 209 #[.int .i64 M,.int .i64 (k : Int)] w fun e w' => e = .returned (.int .i64 ((lowF (xOf M) k : Nat) : Int))∧Below w.heap.size w w':=by
 have HMem:=Lib.hid (fun W => mem_any M W)
 refine (callsIn_wide (n:=3)).1 ?_
 refine callsIn_of_wp_marks Tryz.func209 rfl trivial ?_ rfl
 simp only [Tryz.ntmps209,List.size_toArray,List.length_cons,List.length_nil,Nat.reduceAdd,Nat.reduceSub,Array.replicate_succ,Array.replicate_zero,List.push_toArray,List.append_toArray,List.nil_append,List.cons_append]
 gi_wp2_with (refine ⟨trivial,?_⟩; gi_at_call 86; refine (callsIn_wide.2 (HMem.out _)).mono ?_; rintro e w' ⟨rfl,rfl⟩)
 have bK:=Boxed.new w 3 (.int .i64 (k : Int))
 have bO:=Boxed.new (w.alloc (.cells #[.int .i64 (k : Int)] 3)) 22 (.int .i64 0)
 have bN:=Boxed.new ((w.alloc (.cells #[.int .i64 (k : Int)] 3)).alloc (.cells #[.int .i64 0] 22)) 22 (.int .i64 M)
 rw [World.size_alloc] at bO
 rw [World.size_alloc,World.size_alloc] at bN
 have hB0 : Below w.heap.size w (((w.alloc (.cells #[.int .i64 (k : Int)] 3)).alloc (.cells #[.int .i64 0] 22)).alloc (.cells #[.int .i64 M] 22)):=(((Below.refl _ w).alloc (Nat.le_refl _) _).alloc (by simp) _).alloc (by simp; omega) _
 obtain ⟨W0,hW0⟩ : ∃ W0,W0 = (((w.alloc (.cells #[.int .i64 (k : Int)] 3)).alloc (.cells #[.int .i64 0] 22)).alloc (.cells #[.int .i64 M] 22)):=⟨_,rfl⟩
 have hs0 : W0.heap.size = w.heap.size + 3:=by rw [hW0]; simp
 have bK0 : Boxed W0 w.heap.size 3 (.int .i64 (k : Int)):=by rw [hW0]; exact (bK.alloc _).alloc _
 have bO0 : Boxed W0 (w.heap.size + 1) 22 (.int .i64 0):=by rw [hW0]; exact bO.alloc _
 rw [← hW0] at bN hB0 ⊢
 clear hW0 bK bO
 refine wpIn_rangeFunc_ownG rfl (by omega) (gf:=128) (lb:=#[.pointer (some ⟨w.heap.size + 2,0,none⟩)]) rfl trivial (enters_of Tryz.func128 (by kernel_rfl) rfl)
  (low_stops (3 - 1) (by omega) (w.heap.size + 2) w.heap.size M W0 bN) (Kp:=IdKeep w.heap.size (w.heap.size + 2)) idKeep_t (fun W l o o' hl hlo hc hwk => ⟨belowK_b (w:=W0) (by omega) W l o o' hl hlo hc hwk,(grownBy_putObj' W l o').block _ (by have:=(Array.getElem?_eq_some_iff.1 hlo).1; omega) (fun e => by cases e; omega)⟩) (Below.refl _ _) (by intro x; rfl)
  (fun pre W => (pre.length≤k∧Boxed W w.heap.size 3 (.int .i64 ((k : Int) - pre.length))∧Boxed W (w.heap.size + 1) 22 (.int .i64 ((setF (vals pre) : Nat) : Int))∧Boxed W (w.heap.size + 2) 22 (.int .i64 M))∧Below w.heap.size w W)
  (fun c pre W => (c = .exit 0∧k < pre.length∧Boxed W (w.heap.size + 1) 22 (.int .i64 ((setF ((vals pre).take k) : Nat) : Int)))∧Below w.heap.size w W)
  (OwnFrom.and (OwnFrom.and (ownFrom_pure _ _) (OwnFrom.and (Own.from (boxed_own w.heap.size 3 (fun pre : List (Fin 10) => .int .i64 ((k : Int) - pre.length))) _) (OwnFrom.and (Own.from (boxed_own (w.heap.size + 1) 22 (fun pre : List (Fin 10) => .int .i64 ((setF (vals pre) : Nat) : Int))) _) (Own.from (boxed_own (w.heap.size + 2) 22 (fun _ => .int .i64 M)) _)))) (ownFrom_below (Nat.le_refl _) (by omega)))
  (fun c => OwnFrom.and (OwnFrom.and (ownFrom_pure _ _) (OwnFrom.and (ownFrom_pure _ _) (Own.from (boxed_own (w.heap.size + 1) 22 (fun pre : List (Fin 10) => .int .i64 ((setF ((vals pre).take k) : Nat) : Int))) _))) (ownFrom_below (Nat.le_refl _) (by omega)))
  ⟨⟨Nat.zero_le _,by simpa using bK0,by simpa [setF] using bO0,bN⟩,hB0⟩
  (fun x => { tmps:=#[.int .i64 M,.int .i64 (k : Int),undef,.pointer (some ⟨w.heap.size,0,none⟩),.int .i64 0,.pointer (some ⟨w.heap.size + 1,0,none⟩),.int .i64 (x.val : Int),.int .i64 M,.func (.func 128) #[] #[.pointer (some ⟨w.heap.size + 2,0,none⟩)],.int .i64 (x.val : Int),undef,undef,undef,undef,undef,undef,undef,undef,undef],defers:=[] }) ?assign ?body ?done ?stop
 case assign =>
  intro l x W K hK
  gi_wp2
  exact hK
 case body =>
  rintro l pre x W ⟨⟨hlen,hK,hO,hm⟩,hB⟩ hlt
  have hc:=hK.cell
  have hfk:=hK.frozen
  obtain ⟨S,hS⟩ : ∃ S,S = setF (vals pre):=⟨_,rfl⟩
  rw [← hS] at hO
  have ho:=hO.cell
  have hfo:=hO.frozen
  obtain ⟨n,hn⟩ : ∃ n,n = pre.length:=⟨_,rfl⟩
  rw [← hn] at hc hK hlen
  have hS10 : S < 1024:=by rw [hS]; exact setF_lt (vals_le pre)
  by_cases hk0 : n < k
  ·have dk : decide ((k : Int) - (n : Int) < 1) = false:=by simp; omega
   have hx9 : x.val≤9:=by have:=x.2; omega
   obtain ⟨S2,hS2⟩ : ∃ S2,S2 = S ||| 2 ^ x.val:=⟨_,rfl⟩
   have hor:=or_pow S x.val hS10 hx9
   rw [← hS2] at hor
   have hwk : IntKind.i64.wrap ((k : Int) - (n : Int) - 1) = (k : Int) - ((n : Int) + 1):=by rw [IntKind.wrap_i64]; omega
   have hSn : S2 = setF (vals (pre ++ [x])):=by rw [hS2,hS]; simp [vals,setF,List.foldl_append]
   obtain ⟨WD,hWD⟩ : ∃ WD,WD = ((W.setCell ⟨w.heap.size + 1,0,none⟩ (.int .i64 (S2 : Int))).setCell ⟨w.heap.size,0,none⟩ (.int .i64 ((k : Int) - ((n : Int) + 1)))).drew:=⟨_,rfl⟩
   have hB1 : Below w.heap.size W WD:=by rw [hWD]; exact (((Below.refl w.heap.size W).setCell (p:=⟨w.heap.size + 1,0,none⟩) (Nat.le_succ _) _).setCell (p:=⟨w.heap.size,0,none⟩) (Nat.le_refl _) _).drew
   have hm1 : Boxed WD (w.heap.size + 2) 22 (.int .i64 M):=by rw [hWD]; exact (hm.other (by omega) _).other (by omega) _
   have hO1 : Boxed WD (w.heap.size + 1) 22 (.int .i64 (S2 : Int)):=by rw [hWD]; exact (hO.set (.int .i64 (S2 : Int))).other (by omega) _
   have hK1 : Boxed WD w.heap.size 3 (.int .i64 ((k : Int) - ((n : Int) + 1))):=by rw [hWD]; exact Boxed.set _ (hK.other (by omega) _)
   have hfin : (∀ B,KeepsFrom B W WD)∧IdKeep w.heap.size (w.heap.size + 2) W WD ∧
     ((pre ++ [x]).length≤k∧Boxed WD w.heap.size 3 (.int .i64 ((k : Int) - (pre ++ [x]).length))∧Boxed WD (w.heap.size + 1) 22 (.int .i64 ((setF (vals (pre ++ [x])) : Nat) : Int))∧Boxed WD (w.heap.size + 2) 22 (.int .i64 M)) ∧
     Below w.heap.size w WD :=
    ⟨fun B => by rw [hWD]; exact (((KeepsOthers.setCell _ _ _).trans (KeepsOthers.setCell _ _ _)).trans (KeepsOthers.drew _)).from B,⟨hB1,hm1.trans hm.symm⟩,⟨by rw [List.length_append,List.length_singleton,← hn]; omega,by rw [List.length_append,List.length_singleton,← hn,Int.natCast_add]; exact hK1,by rw [← hSn]; exact hO1,hm1⟩,hB.trans hB1⟩
   have HF:=Lib.hid hfin
   have HWD:=Lib.hid hWD
   clear hfin hB1 hm1 hO1 hK1 hS2 hSn hS hn hO hK hm hWD
   gi_wp2
   gi_region
   all_goals gi_wp2
   all_goals (rw [← HWD.out]; exact ⟨HF.out.1 _,HF.out.2⟩)
  ·have dk : decide ((k : Int) - (n : Int) < 1) = true:=by simp; omega
   have hnk : n = k:=by omega
   have hfin : k < (pre ++ [x]).length∧Boxed W (w.heap.size + 1) 22 (.int .i64 ((setF ((vals (pre ++ [x])).take k) : Nat) : Int)) :=
    ⟨by rw [List.length_append,List.length_singleton,← hn]; omega,by
     rw [show (vals (pre ++ [x])).take k = vals pre by
      rw [show vals (pre ++ [x]) = vals pre ++ [x.val] by simp [vals],← hnk,hn,← vals_len pre,List.take_left],← hS]
     exact hO⟩
   have HF:=Lib.hid hfin
   clear hfin hS hn hO hK hm
   gi_wp2
   exact ⟨KeepsFrom.refl _ _,⟨rfl,HF.out⟩,hB⟩
 case done =>
  rintro D ys W hD hys ⟨⟨hlen,hK,hO,hm⟩,hB⟩ hKD
  have hc:=hO.cell
  gi_wp2
  refine ⟨by simp,.inl ⟨_,_,rfl,run_takeDeferred hKD,?_⟩⟩
  refine ⟨_,results_tmp rfl _ _ _,?_,hB.trans (belowK_b (w:=w) (Nat.le_refl _) W D _ _ (by omega) hKD rfl rfl)⟩
  unfold lowF
  rw [← hys,List.take_of_length_le (by rw [vals_len]; exact hlen)]
  rfl
 case stop =>
  rintro D c pre W hD ⟨i,hi,hpre⟩ ⟨⟨rfl,hlen,hO⟩,hB⟩ hKD
  have hc:=hO.cell
  gi_wp2
  refine ⟨by simp,.inl ⟨_,_,rfl,run_takeDeferred hKD,?_⟩⟩
  refine ⟨_,results_tmp rfl _ _ _,?_,hB.trans (belowK_b (w:=w) (Nat.le_refl _) W D _ _ (by omega) hKD rfl rfl)⟩
  unfold lowF
  rw [take_ids hi (by rw [← hpre,vals_len]; omega)]
  rfl
end
end Go.Proofs.YtadllffeoibelaaGreat
