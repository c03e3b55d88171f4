/-
  What these parts of the proof come to, functions walked and plain laws: GmAct, GmNil, GmMeth. No condition.
-/
import Derived.Test.YtadllffeoibelaaGreatS47
import Derived.Deep.DeepCutAuto
import Derived.Test.YtadllffeoibelaaGreatS9
import Derived.Test.YtadllffeoibelaaGreatS44
import Derived.Test.YtadllffeoibelaaGreatS46
namespace Go.Proofs.YtadllffeoibelaaGreat
section
open Go.RowKit
attribute [local go_sem ↓] Go.wp_at_zero Go.wp_at_succ loadNm loadVt loadSg loadEv
attribute [local go_sem] runNm runVt runSg runEv pickRow_some rowAt_drew rowAt_drewN
def usedAt (b : Nat) (w : World) : Nat:=match w.cell? ⟨b,3,none⟩ with
 | some (.int _ x) => x.toNat
 | _ => 0
theorem PrAt.usedAt {Bs b : Nat} {w : World} {P : PrS} (h : PrAt Bs w b P) : usedAt b w = P.leaf:=by
 unfold Proofs.YtadllffeoibelaaGreat.usedAt
 rw [show w.cell? ⟨b,3,none⟩ = some (.int .i64 (P.leaf : Int)) from h.blk.cell 3]
 simp
theorem optV_size (o : Option Vt) : (optV o).size = 22:=by cases o <;> rfl
theorem optV_one {o : Option Vt} {u : Value} (h : u ∈ (optV o).toList) : u.oneCell' = true:=by
 cases o with
 | none => exact one_zv h
 | some v => exact one_vt v h
theorem PrS.D_len (P : PrS) : P.D.length≤P.L.length:=by
 show ((canF _).map _).length≤_
 rw [List.length_map]
 have:=canF_len (P.L.map Sg.vs)
 rwa [List.length_map] at this
theorem prpN_len (D : List Vt) : (prpN D).length≤D.length:=by
 unfold prpN
 rw [List.length_map]
 exact List.length_filter_le _ _
section
variable {Bs g i b mem c : Nat} {a1 : Int} {par pay : Nm} {M : Int} {ks : List KyS} {V : World} {G : GmS} {P : PrS}
theorem act_cells (h : GmAt Bs V g G) (k : ActK i b mem a1 par M pay ks c G P) : V.cell? ⟨g,0,none⟩ = some (.int .i64 M)∧rowAt V g 2 8 = some par.cells∧V.cell? ⟨b,1,none⟩ = some (.int .i64 (mem : Int))∧V.cell? ⟨b,2,none⟩ = some (.int .i64 a1)∧rowAt V b 4 8 = some pay.cells:=by
 have hP:=(h.prs _ _ k.hi).1
 refine ⟨?_,?_,?_,?_,?_⟩
 ·rw [← k.M]; exact h.blk.cell 0
 ·rw [← k.par]; exact h.row_par
 ·rw [← k.mem]; exact hP.blk.cell 1
 ·rw [← k.acts]; exact hP.blk.cell 2
 ·rw [← k.pay]; exact hP.row_pay
theorem ActK.len' (k : ActK i b mem a1 par M pay ks c G P) (hc : c≤900000) : P.L.length≤999000:=by
 have:=k.len
 have:=k.lf
 omega
theorem prp_act (h : GmAt Bs V g G) (k : ActK i b mem a1 par M pay ks c G P) (hc : c≤900000) : Calls Tryz.prog 73 #[ptrV g,ptrV b] V (PrpPost P.D par mem V):=by
 have:=proposed_any h k.hi (by have:=k.len' hc; omega)
 rwa [k.par,k.mem] at this
theorem vot_act (h : GmAt Bs V g G) (k : ActK i b mem a1 par M pay ks c G P) (hc : c≤900000) : Calls Tryz.prog 44 #[ptrV b] V (VtPost V P.D) :=
 hvotes_any (h.prs _ _ k.hi).1 (by have:=k.len' hc; omega)
def SgA (Bs g i : Nat) (v : Vt) (G : GmS) (P : PrS) (V : World) (e : Ending) (w' : World) : Prop:=∃ ok : Bool,e = .returned (.bool ok)∧Below Bs V w' ∧
 ((ok = false∧¬ (ValidP v∧P.leaf < 1024)∧GmAt Bs w' g G)∨(ok = true∧∃ G',SgnR i v G G'∧GmAt Bs w' g G'))
theorem sgn_act {y : KyS} (h : GmAt Bs V g G) (k : ActK i b mem a1 par M pay ks c G P) (hc : c≤900000) (hB : Bs≤V.heap.size) (hk : ks[mem]? = some y) (v : Vt) (hv : v.ok) : Calls Tryz.prog 74 #[ptrV g,ptrV b,v.val] V (SgA Bs g i v G P V):=by
 obtain ⟨⟨sv0,sl⟩,hs,hsl⟩:=k.sg
 have hlf:=k.lf
 have hK : G.ks[P.mem]? = some y:=by rw [k.ks,k.mem]; exact hk
 have hS : G.sg[P.mem]? = some (sv0,sl):=by rw [k.mem]; exact hs
 refine (sign_any h hB k.hi hK hS v hv (by have:=k.len' hc; omega) (by have : sl.length≤c + P.leaf:=hsl; omega)).mono ?_
 rintro e w' ⟨hb,⟨h1,rfl,h2⟩ | ⟨h1,rfl,va,vs,L,h2,h3⟩⟩
 ·exact ⟨false,rfl,hb,.inl ⟨rfl,h1,h2⟩⟩
 ·exact ⟨true,rfl,hb,.inr ⟨rfl,_,⟨b,P,y,sv0,sl,va,vs,L,k.hi,hK,hS,h1,h2,rfl⟩,h3⟩⟩
theorem SgA.cells {v : Vt} {W : World} {e : Ending} (h : SgA Bs g i v G P W e V) (k : ActK i b mem a1 par M pay ks c G P) : V.cell? ⟨g,0,none⟩ = some (.int .i64 M)∧rowAt V g 2 8 = some par.cells∧V.cell? ⟨b,1,none⟩ = some (.int .i64 (mem : Int))∧V.cell? ⟨b,2,none⟩ = some (.int .i64 a1)∧rowAt V b 4 8 = some pay.cells:=by
 obtain ⟨_,_,_,⟨_,_,h⟩ | ⟨_,G',hs,h⟩⟩:=h
 ·exact act_cells h k
 ·obtain ⟨P',k',_⟩:=hs.actK k
  exact act_cells h k'
end
def ActPost (Bs g i b mem c : Nat) (a1 : Int) (par pay : Nm) (M : Int) (ks : List KyS) (Inv : GmS→Prop) (w : World) (e : Ending) (w' : World) : Prop :=
 e = .returned (.tuple #[])∧Below Bs w w'∧∃ (G' : GmS) (P' : PrS),GmAt Bs w' g G'∧ActK i b mem a1 par M pay ks c G' P'∧Inv G'∧(DueA i G' none∨P'.leaf = 1024)
set_option maxRecDepth 100000 in
set_option maxHeartbeats 16000000 in
theorem act_any {Bs g i b mem c : Nat} {acts : Int} {par pay : Nm} {M : Int} {ks : List KyS} {w : World} {G : GmS} {P : PrS} {y : KyS} (Inv : GmS→Prop) (h : GmAt Bs w g G) (hBs : Bs≤w.heap.size) (hc : c≤900000) (k : ActK i b mem acts par M pay ks c G P) (hk : ks[mem]? = some y) (hm : mem≤9) (ha : 0≤acts∧acts < 1000000)
  (hA : prpO par mem P.D = true→Inv (G.actd i b P)) (hB : prpO par mem P.D = false→∀ G',SgnR i (propV par mem pay) (G.actd i b P) G'→Inv G') (hC : prpO par mem P.D = false→¬ (ValidP (propV par mem pay)∧P.leaf < 1024)→Inv (G.actd i b P))
  (hS : ∀ G1 G2 v,Inv G1→DueA i G1 (some v)→SgnR i v G1 G2→Inv G2) :
  Calls Tryz.prog 39 #[ptrV g,ptrV b] w (ActPost Bs g i b mem c (acts + 1) par pay M ks Inv w):=by
 have hP:=(h.prs _ _ k.hi).1
 have hbB : Bs≤b:=(h.prs _ _ k.hi).2
 have y2 : w.cell? ⟨b,2,none⟩ = some (.int .i64 acts):=by rw [← k.acts]; exact hP.blk.cell 2
 have y2f : w.frozen? ⟨b,2,none⟩ = false:=hP.blk.frozen 2
 obtain ⟨a1,ha1⟩ : ∃ a1,a1 = acts + 1:=⟨_,rfl⟩
 have hwa : IntKind.i64.wrap (acts + 1) = a1:=by rw [ha1,IntKind.wrap_i64]; omega
 rw [← ha1]
 obtain ⟨w1,hw1⟩ : ∃ w1,w1 = w.setCell ⟨b,2,none⟩ (.int .i64 a1):=⟨_,rfl⟩
 have hg1 : w.grownBy w1 (some b):=by rw [hw1]; exact one_put (p:=⟨b,2,none⟩) (one_refl w b) rfl _
 obtain ⟨P1,hP1⟩ : ∃ P1 : PrS,P1 = { P with acts:=P.acts + 1 }:=⟨_,rfl⟩
 have hA1 : PrAt Bs w1 b P1:=by
  rw [hP1]
  refine ⟨by rw [hw1,ha1,← k.acts]; exact hP.blk.put 2 _,own_off hP.row hg1 (.blk hP.blk (by decide)),fun s hs => (hP.sgs s hs).off hg1 (.blk hP.blk (by decide)),own_off hP.dec hg1 (.blk hP.blk (by decide))⟩
 have hG1 : GmAt Bs w1 g (G.setP i b P1):=h.setP k.hi hg1 hA1
 have hK1 : ActK i b mem a1 par M pay ks c (G.setP i b P1) P1:=by
  rw [hP1]
  exact ⟨List.getElem?_set_self (List.getElem?_eq_some_iff.1 k.hi).1,k.mem,by rw [ha1,← k.acts],k.pay,k.par,k.M,k.ks,k.sg,k.len,k.val,k.lf⟩
 have hb01 : Below Bs w w1:=(Below.refl _ _).grown hg1 hBs (fun j hj => by injection hj with hj; subst hj; exact hbB)
 have hBs1 : Bs≤w1.heap.size:=Nat.le_trans hBs hg1.size
 obtain ⟨own,hown⟩ : ∃ o,o = prpO par mem P.D:=⟨_,rfl⟩
 have hD1 : P1.D = P.D:=by rw [hP1]
 have hl1 : P1.leaf = P.leaf:=by rw [hP1]
 have HPr0 : Hid (Calls Tryz.prog 73 #[ptrV g,ptrV b] w1 fun e w2 => ∃ v,e = .returned (.tuple #[v,.bool own])∧Below w1.heap.size w1 w2):=by
  unfold Hid
  rw [hown,← hD1]
  exact (prp_act hG1 hK1 hc).mono fun e w2 ⟨v,h1,_,h3⟩ => ⟨v,h1,h3⟩
 rw [← hown] at hA hB hC
 obtain ⟨G1,hGe⟩ : ∃ G1,G1 = G.setP i b P1:=⟨_,rfl⟩
 have hGd : G.actd i b P = G1:=by rw [hGe,hP1]
 rw [hGd] at hA hB hC
 rw [← hGe] at hG1 hK1
 rw [← hl1] at hC
 have HA:=Lib.hid hA
 have HB:=Lib.hid hB
 have HC:=Lib.hid hC
 have HS:=Lib.hid hS
 have HG1:=Lib.hid hG1
 have HK1:=Lib.hid hK1
 have HW1:=Lib.hid hw1
 have HKy:=Lib.hid hk
 have HPr : Hid (∀ V G' P',GmAt Bs V g G'→ActK i b mem a1 par M pay ks c G' P'→Calls Tryz.prog 73 #[ptrV g,ptrV b] V (PrpPost P'.D par mem V)):=fun V G' P' h k => prp_act h k hc
 have HVt : Hid (∀ V G' P',GmAt Bs V g G'→ActK i b mem a1 par M pay ks c G' P'→Calls Tryz.prog 44 #[ptrV b] V (VtPost V P'.D)):=fun V G' P' h k => vot_act h k hc
 have HSg : Hid (∀ V G' P' v,GmAt Bs V g G'→ActK i b mem a1 par M pay ks c G' P'→Bs≤V.heap.size→v.ok→Calls Tryz.prog 74 #[ptrV g,ptrV b,v.val] V (SgA Bs g i v G' P' V)):=fun V G' P' v h k hB hv => sgn_act h k hc hB hk v hv
 clear h k hk hA hB hC hS hP hg1 hA1 hG1 hK1 hw1 hP1 hD1 hl1 hGe hown ha1 hGd
 go_enter Tryz.func39,Tryz.ntmps39
 go_upto_region 1 with fail
 simp only [← HW1.out]
 go_upto_if 24 with (go_at_call 73; refine HPr0.out.mono ?_; rintro en w2 ⟨v2,rfl,hb2⟩)
 have hb02 : Below Bs w w2:=hb01.trans (hb2.mono hBs1)
 have hBs2 : Bs≤w2.heap.size:=Nat.le_trans hBs1 hb2.size
 have HG2:=Lib.hid (HG1.out.below hb2)
 clear HPr0
 go_cut [4] (fun _ wx => ∃ G' P',GmAt Bs wx g G'∧ActK i b mem a1 par M pay ks c G' P'∧Inv G'∧Below Bs w wx)
 case first =>
  cases own with
  | true =>
   go_wp2
   go_meet
   exact ⟨G1,P1,HG2.out,HK1.out,(by first | exact HA.out rfl | exact HA.out trivial),hb02⟩
  | false =>
   have HX : Hid (∀ V,Below w2.heap.size w2 V→V.cell? ⟨g,0,none⟩ = some (.int .i64 M)∧rowAt V g 2 8 = some par.cells∧V.cell? ⟨b,1,none⟩ = some (.int .i64 (mem : Int))∧V.cell? ⟨b,2,none⟩ = some (.int .i64 a1)∧rowAt V b 4 8 = some pay.cells):=fun V hV => act_cells (HG2.out.below hV) HK1.out
   have HSg2 : Hid (∀ V,Below w2.heap.size w2 V→Calls Tryz.prog 74 #[ptrV g,ptrV b,(propV par mem pay).val] V (SgA Bs g i (propV par mem pay) G1 P1 V)):=fun V hV => HSg.out V G1 P1 _ (HG2.out.below hV) HK1.out (Nat.le_trans hBs2 hV.size) ⟨by simp,by simp⟩
   go_upto_region 3 with fail
   refine rgD (fun V => V.cell? ⟨g,0,none⟩ = some (.int .i64 M)∧rowAt V g 2 8 = some par.cells∧V.cell? ⟨b,1,none⟩ = some (.int .i64 (mem : Int))∧V.cell? ⟨b,2,none⟩ = some (.int .i64 a1)∧rowAt V b 4 8 = some pay.cells) (HX.out _ (Below.refl w2.heap.size w2).drew) fun hHeld => ?_
   refine tkD 25 0 ?_
   go_frame
   refine tkD 26 1 ?_
   go_frame
   refine tkD 27 2 ?_
   go_frame
   refine tkD 28 3 ?_
   go_frame
   refine tkD 29 4 ?_
   go_frame
   refine tkD 30 5 ?_
   go_frame
   refine tkD 31 6 ?_
   go_frame
   refine tkD 32 7 ?_
   go_frame
   refine tkD 33 8 ?_
   go_frame
   refine tkD 34 9 ?_
   go_frame
   refine tkD 35 10 ?_
   go_frame
   refine tkD 36 11 ?_
   go_frame
   refine tkD 37 12 ?_
   go_frame
   refine tkD 38 13 ?_
   go_frame
   refine tkD 39 14 ?_
   go_frame
   refine tkD 40 15 ?_
   go_frame
   refine tkD 41 16 ?_
   go_frame
   refine tkD 42 17 ?_
   go_frame
   refine tkD 43 18 ?_
   go_frame
   refine rd1 19 fun K hK => ?_
   go_simp
   refine (HSg2.out _ (Below.refl w2.heap.size w2).drew).mono ?_; rintro en w4 hs4; have HX4:=Lib.hid (hs4.cells HK1.out); obtain ⟨ok,rfl,hb4,hs4⟩:=hs4
   go_wp2_with fail
   refine hK.out _ _ (HX4.out) (fun hHeld => ?_)
   clear hK K
   try go_frame
   refine dnD ?_
   have hb04 : Below Bs w w4:=(hb02.trans (Below.refl _ _).drew).trans hb4
   have HS4:=Lib.hid hs4
   clear hs4 hb4
   go_wp2
   go_meet
   rcases HS4.out with ⟨_,h1,h2⟩ | ⟨_,G',h1,h2⟩
   ·exact ⟨G1,P1,h2,HK1.out,(by first | exact HC.out rfl h1 | exact HC.out trivial h1),hb04⟩
   ·obtain ⟨P',k',_⟩:=h1.actK HK1.out
    exact ⟨G',P',h2,k',(by first | exact HB.out rfl G' h1 | exact HB.out trivial G' h1),hb04⟩
 case rest =>
  obtain ⟨G3,P3,hG3,hK3,hI3,hb03⟩:=hcut
  generalize wc = w3 at *
  have HG3:=Lib.hid hG3
  have HK3:=Lib.hid hK3
  have HI3:=Lib.hid hI3
  clear hG3 hK3 hI3 HG2 hb02 hBs2 HA HB HC HG1 HK1 y2 y2f
  go_wp2
  go_loopw [6] (fun _ wr => ∃ G' P',GmAt Bs wr g G'∧ActK i b mem a1 par M pay ks c G' P'∧Inv G'∧Below Bs w wr) (fun _ wr => 1024 - usedAt b wr)
  case atStart => exact ⟨G3,P3,HG3.out,HK3.out,HI3.out,hb03⟩
  case round =>
   obtain ⟨G4,P4,hG4,hK4,hI4,hb04⟩:=hrel
   have hBs4 : Bs≤wr.heap.size:=Nat.le_trans hBs hb04.size
   obtain ⟨D,hD⟩ : ∃ D,D = P4.D:=⟨_,rfl⟩
   have hD6 : D.length≤1000000:=by
    rw [hD]
    have h1:=hK4.len' hc
    have h2:=P4.D_len
    omega
   have hN6 : (prpN D).length≤1000000:=Nat.le_trans (prpN_len D) hD6
   have HDv : Hid (∀ v ∈ D,ValidP v):=by rw [hD]; exact PrS.D_valid hK4.val
   have hlf : usedAt b wr = P4.leaf:=(hG4.prs _ _ hK4.hi).1.usedAt
   have HPr4 : Hid (Calls Tryz.prog 73 #[ptrV g,ptrV b] wr (PrpPost D par mem wr)):=by rw [hD]; exact HPr.out wr G4 P4 hG4 hK4
   have HVt4 : Hid (∀ V,Below wr.heap.size wr V→Calls Tryz.prog 44 #[ptrV b] V (VtPost V D)):=fun V hV => by rw [hD]; exact HVt.out V G4 P4 (hG4.below hV) hK4
   have HX4 : Hid (∀ V,Below wr.heap.size wr V→V.cell? ⟨g,0,none⟩ = some (.int .i64 M)∧rowAt V g 2 8 = some par.cells∧V.cell? ⟨b,1,none⟩ = some (.int .i64 (mem : Int))∧V.cell? ⟨b,2,none⟩ = some (.int .i64 a1)∧rowAt V b 4 8 = some pay.cells):=fun V hV => act_cells (hG4.below hV) hK4
   have HDu : Hid (∀ o,SNextR M par (mem : Int) D (prpN D) (decide (2 < a1)) o→DueA i G4 o):=fun o ho => ⟨b,P4,hK4.hi,by rw [hK4.M,hK4.par,hK4.mem,hK4.acts,← hD]; exact ho⟩
   have HG4:=Lib.hid hG4
   have HK4:=Lib.hid hK4
   have HI4:=Lib.hid hI4
   have HLf:=Lib.hid hlf
   clear hG4 hK4 hI4 hD hlf HG3 HK3 HI3
   go_upto_region 5 with (go_at_call 73; refine HPr4.out.mono ?_; rintro en w5 ⟨v5,rfl,hown5,hb5⟩; obtain ⟨A5,c5,rfl,hR5⟩:=own_shape hown5; have HR5:=Lib.hid hR5; clear hown5 hR5)
   obtain ⟨nH,hnH⟩ : ∃ n,(prpN D).length = n:=⟨_,rfl⟩
   rw [hnH] at hN6 ⊢
   obtain ⟨wt,hwt⟩ : ∃ wt,wt = decide (2 < a1):=⟨_,rfl⟩
   have HWt:=Lib.hid hwt
   have hBs5 : Bs≤w5.heap.size:=Nat.le_trans hBs4 hb5.size
   have hb05 : Below Bs w w5:=hb04.trans (hb5.mono hBs4)
   have HX5 : Hid (∀ V,Below w5.heap.size w5 V→V.cell? ⟨g,0,none⟩ = some (.int .i64 M)∧rowAt V g 2 8 = some par.cells∧V.cell? ⟨b,1,none⟩ = some (.int .i64 (mem : Int))∧V.cell? ⟨b,2,none⟩ = some (.int .i64 a1)∧rowAt V b 4 8 = some pay.cells):=fun V hV => HX4.out V (hb5.trans (hV.mono hb5.size))
   have HVt5 : Hid (∀ V,Below w5.heap.size w5 V→Calls Tryz.prog 44 #[ptrV b] V (VtPost V D)):=fun V hV => HVt4.out V (hb5.trans (hV.mono hb5.size))
   have HNx : Hid (∀ V A c',Below w5.heap.size w5 V→Rd V V.heap.size A (D.flatMap vtc)→Calls Tryz.prog 75 #[.int .i64 M,par.val,.slice A D.length c',.int .i64 (mem : Int),.slice A5 nH c5,.bool (decide (2 < a1))] V (OptPost (SNextR M par (mem : Int) D (prpN D) (decide (2 < a1))) V)):=fun V A c' hV hR =>
    snext_any M par A D.length c' D (mem : Int) A5 nH c5 (prpN D) (decide (2 < a1)) V rfl hR hD6 HDv.out (by omega) hnH ((HR5.out.below hV).more hV.size) hN6
   clear hnH HX4 HVt4 HPr4 HR5
   go_cut [8,9] (fun pv bv wx => ∃ z o,pv = .pointer (some ⟨z,0,none⟩)∧bv = .bool (Option.isSome o)∧Blk wx z 46 (optV o)∧SNextR M par (mem : Int) D (prpN D) (decide (2 < a1)) o∧Below w5.heap.size w5 wx)
   case first =>
    refine rgD (fun V => V.cell? ⟨g,0,none⟩ = some (.int .i64 M)∧rowAt V g 2 8 = some par.cells∧V.cell? ⟨b,1,none⟩ = some (.int .i64 (mem : Int))∧V.cell? ⟨b,2,none⟩ = some (.int .i64 a1)∧rowAt V b 4 8 = some pay.cells) (HX5.out _ (Below.refl w5.heap.size w5).drew) fun hHeld => ?_
    refine tkD 52 0 ?_
    go_frame
    refine tkD 53 1 ?_
    go_frame
    refine tkD 54 2 ?_
    go_frame
    refine tkD 55 3 ?_
    go_frame
    refine tkD 56 4 ?_
    go_frame
    refine tkD 57 5 ?_
    go_frame
    refine tkD 58 6 ?_
    go_frame
    refine tkD 59 7 ?_
    go_frame
    refine tkD 60 8 ?_
    go_frame
    refine tkD 61 9 ?_
    go_frame
    refine tkD 62 10 ?_
    go_frame
    refine tkD 64 12 ?_
    go_frame
    refine tkD 65 13 ?_
    go_frame
    refine tkD 66 14 ?_
    go_frame
    refine tkD 67 15 ?_
    go_frame
    refine tkD 68 16 ?_
    go_frame
    refine tkD 69 17 ?_
    go_frame
    refine tkD 70 18 ?_
    go_frame
    refine tkD 71 19 ?_
    go_frame
    refine tkD 72 20 ?_
    go_frame
    refine tkD 73 21 ?_
    go_frame
    refine rd2 11 26 (fun K hK => ?_) fun K hK => ?_
    ·go_simp
     refine (HVt5.out _ ((Below.refl w5.heap.size w5).drew)).mono ?_; rintro en w6 ⟨v6,rfl,hb6,hown6⟩; obtain ⟨A6,c6,rfl,hR6⟩:=own_shape hown6; have HR6:=Lib.hid hR6; have hb56 : Below w5.heap.size w5 w6:=((Below.refl w5.heap.size w5).drew).trans (hb6.mono (Below.size ((Below.refl w5.heap.size w5).drew))); clear hown6 hR6
     go_wp2_with fail
     refine hK.out _ _ (HX5.out _ hb56) (fun hHeld => ?_)
     clear hK K
     try go_frame
     refine rd2 22 26 (fun K hK => ?_) fun K hK => ?_
     ·go_simp
      refine (HNx.out _ A6 c6 (hb56) (HR6.out)).mono ?_; rintro en w7 ⟨o,rfl,ho,hb7⟩; have hb57 : Below w5.heap.size w5 w7:=(hb56).trans (hb7.mono (Below.size (hb56))); have HO:=Lib.hid ho; clear ho
      go_wp2_with fail
      refine hK.out _ _ (HX5.out _ hb57) (fun hHeld => ?_)
      clear hK K
      try go_frame
      refine tkD 51 23 ?_
      go_frame
      refine tkD 75 24 ?_
      go_frame
      refine tkD 76 25 ?_
      go_frame
      refine rd1 26 fun K hK => ?_
      go_simp
      refine hK.out _ _ (HX5.out _ (hb57.alloc hb57.size _)) (fun hHeld => ?_)
      clear hK K
      try go_frame
      refine rd1 27 fun K hK => ?_
      rw [if_pos (by rfl)]
      refine wp_store_blk 46 (.tmp 8) (.tmp 75) (by rfl) w7.heap.size (optV o) (by rfl) (by rfl) 46 zeroVc (Blk.new w7 _ _) (by rw [optV_size]; rfl) (by rw [optV_size]; exact size_vt) (fun u hu => optV_one hu) (by rfl) ?_; intro w8 hR8 hg8 hsz8
      refine hK.out _ _ (HX5.out _ (Below.grown (hb57.alloc hb57.size _) hg8 (Below.size (hb57.alloc hb57.size _)) (fun j hj => by injection hj with hj; subst hj; exact hb57.size))) (fun hHeld => ?_)
      clear hK K
      try go_frame
      refine tkD 9 28 ?_
      go_frame
      refine dnD ?_
      go_wp2_with fail
      go_meet
      exact ⟨w7.heap.size,o,rfl,rfl,hR8,HO.out,Below.grown (hb57.alloc hb57.size _) hg8 (Below.size (hb57.alloc hb57.size _)) (fun j hj => by injection hj with hj; subst hj; exact hb57.size)⟩
     ·go_simp
      refine hK.out _ _ (HX5.out _ (hb56.alloc hb56.size _)) (fun hHeld => ?_)
      clear hK K
      try go_frame
      refine rd1 22 fun K hK => ?_
      go_simp
      refine (HNx.out _ A6 c6 (hb56.alloc hb56.size _) ((HR6.out.below ((Below.refl _ w6).alloc (Nat.le_refl _) _)).more (by simp))).mono ?_; rintro en w7 ⟨o,rfl,ho,hb7⟩; have hb57 : Below w5.heap.size w5 w7:=(hb56.alloc hb56.size _).trans (hb7.mono (Below.size (hb56.alloc hb56.size _))); have HO:=Lib.hid ho; clear ho; have hZ7 : Blk w7 w6.heap.size 46 zeroVc:=Blk.below (Blk.new w6 _ _) hb7 (by simp)
      go_wp2_with fail
      refine hK.out _ _ (HX5.out _ hb57) (fun hHeld => ?_)
      clear hK K
      try go_frame
      refine tkD 51 23 ?_
      go_frame
      refine tkD 75 24 ?_
      go_frame
      refine tkD 76 25 ?_
      go_frame
      refine rd1 27 fun K hK => ?_
      rw [if_pos (by rfl)]
      refine wp_store_blk 46 (.tmp 8) (.tmp 75) (by rfl) w6.heap.size (optV o) (by rfl) (by rfl) 46 zeroVc (hZ7) (by rw [optV_size]; rfl) (by rw [optV_size]; exact size_vt) (fun u hu => optV_one hu) (by rfl) ?_; intro w8 hR8 hg8 hsz8
      refine hK.out _ _ (HX5.out _ (Below.grown (hb57) hg8 (Below.size (hb57)) (fun j hj => by injection hj with hj; subst hj; exact hb56.size))) (fun hHeld => ?_)
      clear hK K
      try go_frame
      refine tkD 9 28 ?_
      go_frame
      refine dnD ?_
      go_wp2_with fail
      go_meet
      exact ⟨w6.heap.size,o,rfl,rfl,hR8,HO.out,Below.grown (hb57) hg8 (Below.size (hb57)) (fun j hj => by injection hj with hj; subst hj; exact hb56.size)⟩
    ·go_simp
     refine hK.out _ _ (HX5.out _ (((Below.refl w5.heap.size w5).alloc (Nat.le_refl _) _).drew)) (fun hHeld => ?_)
     clear hK K
     try go_frame
     refine rd1 11 fun K hK => ?_
     go_simp
     refine (HVt5.out _ (((Below.refl w5.heap.size w5).alloc (Nat.le_refl _) _).drew)).mono ?_; rintro en w6 ⟨v6,rfl,hb6,hown6⟩; obtain ⟨A6,c6,rfl,hR6⟩:=own_shape hown6; have HR6:=Lib.hid hR6; have hb56 : Below w5.heap.size w5 w6:=(((Below.refl w5.heap.size w5).alloc (Nat.le_refl _) _).drew).trans (hb6.mono (Below.size (((Below.refl w5.heap.size w5).alloc (Nat.le_refl _) _).drew))); clear hown6 hR6; have hZ6 : Blk w6 w5.heap.size 46 zeroVc:=Blk.below (w:=(w5.alloc (.cells zeroVc 46)).drew) (Blk.new w5 _ _) hb6 (by simp)
     go_wp2_with fail
     refine hK.out _ _ (HX5.out _ hb56) (fun hHeld => ?_)
     clear hK K
     try go_frame
     refine rd1 22 fun K hK => ?_
     go_simp
     refine (HNx.out _ A6 c6 (hb56) (HR6.out)).mono ?_; rintro en w7 ⟨o,rfl,ho,hb7⟩; have hb57 : Below w5.heap.size w5 w7:=(hb56).trans (hb7.mono (Below.size (hb56))); have HO:=Lib.hid ho; clear ho; have hZ7:=hZ6.below hb7 hZ6.lt
     go_wp2_with fail
     refine hK.out _ _ (HX5.out _ hb57) (fun hHeld => ?_)
     clear hK K
     try go_frame
     refine tkD 51 23 ?_
     go_frame
     refine tkD 75 24 ?_
     go_frame
     refine tkD 76 25 ?_
     go_frame
     refine rd1 27 fun K hK => ?_
     rw [if_pos (by rfl)]
     refine wp_store_blk 46 (.tmp 8) (.tmp 75) (by rfl) w5.heap.size (optV o) (by rfl) (by rfl) 46 zeroVc (hZ7) (by rw [optV_size]; rfl) (by rw [optV_size]; exact size_vt) (fun u hu => optV_one hu) (by rfl) ?_; intro w8 hR8 hg8 hsz8
     refine hK.out _ _ (HX5.out _ (Below.grown (hb57) hg8 (Below.size (hb57)) (fun j hj => by injection hj with hj; subst hj; exact Nat.le_refl _))) (fun hHeld => ?_)
     clear hK K
     try go_frame
     refine tkD 9 28 ?_
     go_frame
     refine dnD ?_
     go_wp2_with fail
     go_meet
     exact ⟨w5.heap.size,o,rfl,rfl,hR8,HO.out,Below.grown (hb57) hg8 (Below.size (hb57)) (fun j hj => by injection hj with hj; subst hj; exact Nat.le_refl _)⟩
   case rest =>
    obtain ⟨z,o,rfl,rfl,hZ,ho,hb6⟩:=hcut
    generalize wc = w6 at *
    have hb56:=hb5.trans (hb6.mono hb5.size)
    have hb06 : Below Bs w w6:=hb05.trans (hb6.mono hBs5)
    have hBs6 : Bs≤w6.heap.size:=Nat.le_trans hBs5 hb6.size
    have HG6:=Lib.hid (HG4.out.below hb56)
    have HDue:=Lib.hid (HDu.out o ho)
    have HSo:=Lib.hid ho
    clear ho hb6 hb5 HNx HVt5 HX5 HG4
    cases o with
    | none =>
     clear hZ
     go_wp2
     go_end0
     exact ⟨rfl,hb06,G4,P4,HG6.out,HK4.out,HI4.out,.inl HDue.out⟩
    | some v =>
     simp only [optV,Option.isSome_some] at hZ ⊢
     have x1 : rowAt w6 z 0 22 = some v.cells:=hZ.row 22 rfl
     have hvv : ValidP v:=by
      obtain ⟨s,_,hd⟩:=HSo.out.due HDv.out
      exact hd.1
     have HSg6:=Lib.hid (HSg.out w6 G4 P4 v HG6.out HK4.out hBs6 (vt_ok hvv))
     have HVv:=Lib.hid hvv
     clear hZ hvv
     go_upto_if 85 with (go_at_call 74; refine HSg6.out.mono ?_; rintro en w7 ⟨ok,rfl,hb7,hs7⟩; have HS7:=Lib.hid hs7; clear hs7)
     have hb07:=hb06.trans hb7
     cases ok with
     | false =>
      go_wp2
      go_end0
      rcases HS7.out with ⟨_,h1,h2⟩ | ⟨h,_⟩
      ·refine ⟨rfl,hb07,G4,P4,h2,HK4.out,HI4.out,.inr ?_⟩
       have h3:=HK4.out.lf
       by_cases h4 : P4.leaf < 1024
       ·exact absurd ⟨HVv.out,h4⟩ h1
       ·omega
      ·cases h
     | true =>
      go_wp2
      go_roundw
      case rel =>
       rcases HS7.out with ⟨h,_⟩ | ⟨_,G',h1,h2⟩
       ·cases h
       ·obtain ⟨P',k',_⟩:=h1.actK HK4.out
        exact ⟨G',P',h2,k',HS.out G4 G' v HI4.out HDue.out h1,hb07⟩
      case measure =>
       rcases HS7.out with ⟨h,_⟩ | ⟨_,G',h1,h2⟩
       ·cases h
       ·obtain ⟨P',k',e1,e2⟩:=h1.actK HK4.out
        have e3 : usedAt b w7 = P'.leaf:=(h2.prs _ _ k'.hi).1.usedAt
        have e4 : usedAt b wr = P4.leaf:=HLf.out
        omega
end
section
open Go.RowKit
attribute [local go_sem ↓] Go.wp_at_zero Go.wp_at_succ loadNm loadVt loadSg loadEv
attribute [local go_sem] runNm runVt runSg runEv pickRow_some rowAt_drew rowAt_drewN
structure Stp where
 kind : Int
 process : Int
 procs : Int
 vote : Vt
abbrev Stp.cells (s : Stp) : Array Value:=#[I s.kind,I s.process,I s.procs,I s.vote.kind,I s.vote.slot,I s.vote.round,I s.vote.choice,I s.vote.signer,I s.vote.support,
 B s.vote.parent.b0,B s.vote.parent.b1,B s.vote.parent.b2,B s.vote.parent.b3,B s.vote.parent.b4,B s.vote.parent.b5,B s.vote.parent.b6,B s.vote.parent.b7,
 B s.vote.value.b0,B s.vote.value.b1,B s.vote.value.b2,B s.vote.value.b3,B s.vote.value.b4,B s.vote.value.b5,B s.vote.value.b6,B s.vote.value.b7]
abbrev Stp.val (s : Stp) : Value:=.agg s.cells
abbrev nilP : Value:=.pointer none
theorem processes_nil (w : World) : Calls Tryz.prog 17 #[nilP] w fun e w' => e = .returned (.int .i64 0)∧w' = w:=by
 go_enter Tryz.func17,Tryz.ntmps17
 go_wp2
 go_ret
 exact ⟨rfl,rfl⟩
theorem honest_nil (w : World) : Calls Tryz.prog 16 #[nilP] w fun e w' => e = .returned (.int .i64 0)∧w' = w:=by
 go_enter Tryz.func16,Tryz.ntmps16
 go_wp2
 go_ret
 exact ⟨rfl,rfl⟩
theorem keys_nil (w : World) : Calls Tryz.prog 31 #[nilP] w fun e w' => e = .returned (.slice none 0 0)∧w' = w:=by
 go_enter Tryz.func31,Tryz.ntmps31
 go_wp2
 go_ret
 exact ⟨rfl,rfl⟩
theorem signed_nil (p : Int) (w : World) : Calls Tryz.prog 25 #[nilP,.int .i64 p] w fun e w' => e = .returned (.slice none 0 0)∧w' = w:=by
 go_enter Tryz.func25,Tryz.ntmps25
 go_wp2
 go_ret
 exact ⟨rfl,rfl⟩
theorem parent_nil (w : World) : Calls Tryz.prog 30 #[nilP] w fun e w' => e = .returned (.agg zero8)∧Below w.heap.size w w':=by
 have hZ : Blk (w.alloc (.cells zero8 24)) w.heap.size 24 zero8:=Blk.new w _ _
 go_enter Tryz.func30,Tryz.ntmps30
 go_wp2_with (refine wpList_store_blk rfl 24 (.tmp 2) (.tmp 5) rfl w.heap.size zero8 rfl rfl 24 zero8 hZ rfl size_name (fun u hu => one_nm Nm.zero hu) ?_; intro w2 hR2 hg2 hsz2)
 refine bodyPost_ret (results_cell_row (g:=w.heap.size) rfl _ _ _ _ _ _ rfl hR2 Tryz.underlying24 rfl size_name) rfl ⟨rfl,?_⟩
 exact ((Below.refl _ w).alloc (Nat.le_refl _) _).grown hg2 (by simp) (fun k hk => by injection hk with hk; subst hk; exact Nat.le_refl _)
theorem member_nil (p : Int) (w : World) : Calls Tryz.prog 20 #[nilP,.int .i64 p] w fun e w' => e = .returned (.int .i64 (-1))∧w' = w:=by
 have HP:=Lib.hid (processes_nil w)
 by_cases hp : p < 0
 ·have d1 : decide (p < 0) = true:=by simpa using hp
  go_enter Tryz.func20,Tryz.ntmps20
  go_wp2
  go_ret
  exact ⟨rfl,rfl⟩
 ·have d1 : decide (p < 0) = false:=by simpa using hp
  have d2 : decide (0≤p) = true:=by simp; omega
  go_enter Tryz.func20,Tryz.ntmps20
  go_wp2_with (go_at_call 17; refine HP.out.mono ?_; rintro en w2 ⟨rfl,hw2⟩; replace hw2:=hw2.symm; subst hw2)
  go_ret
  exact ⟨rfl,rfl⟩
theorem held_nil (p : Int) (w : World) : Calls Tryz.prog 23 #[nilP,.int .i64 p] w fun e w' => e = .returned (.slice none 0 0)∧w' = w:=by
 have HP:=Lib.hid (member_nil p w)
 go_enter Tryz.func23,Tryz.ntmps23
 go_wp2_with (go_at_call 20; refine HP.out.mono ?_; rintro en w2 ⟨rfl,hw2⟩; replace hw2:=hw2.symm; subst hw2)
 go_ret
 exact ⟨rfl,rfl⟩
theorem decision_nil (p : Int) (w : World) : Calls Tryz.prog 18 #[nilP,.int .i64 p] w fun e w' => e = .returned (.tuple #[.slice none 0 0,.bool false])∧w' = w:=by
 have HP:=Lib.hid (member_nil p w)
 go_enter Tryz.func18,Tryz.ntmps18
 go_wp2_with (go_at_call 20; refine HP.out.mono ?_; rintro en w2 ⟨rfl,hw2⟩; replace hw2:=hw2.symm; subst hw2)
 go_ret2
 exact ⟨rfl,rfl⟩
theorem do_nil (s : Stp) (w : World) : Calls Tryz.prog 22 #[nilP,s.val] w fun e w' => e = .returned (.int .i64 1)∧Below w.heap.size w w':=by
 go_enter Tryz.func22,Tryz.ntmps22
 go_wp2
 go_ret
 exact ⟨rfl,(Below.refl _ w).alloc (Nat.le_refl _) _⟩
end
section
open Go.RowKit
attribute [local go_sem ↓] Go.wp_at_zero Go.wp_at_succ loadNm loadVt loadSg loadEv
attribute [local go_sem] runNm runVt runSg runEv pickRow_some rowAt_drew rowAt_drewN
theorem processes_any {Bs g : Nat} {w : World} {G : GmS} (h : GmAt Bs w g G) : Calls Tryz.prog 17 #[ptrV g] w fun e w' => e = .returned (.int .i64 (G.ps.length : Int))∧w' = w:=by
 obtain ⟨A,c,hv⟩:=own_form h.prow
 obtain ⟨n,hn⟩ : ∃ n,G.ps.length = n:=⟨_,rfl⟩
 rw [hn] at hv ⊢
 have y1 : w.cell? ⟨g,11,none⟩ = some (.slice A n c):=by rw [← hv]; exact h.blk.cell 11
 clear h hv hn
 go_enter Tryz.func17,Tryz.ntmps17
 go_wp2
 go_ret
 exact ⟨rfl,rfl⟩
theorem GmAt.pcells {Bs g i b : Nat} {w : World} {G : GmS} {P : PrS} (h : GmAt Bs w g G) (hi : G.ps[i]? = some (b,P)) : ∃ pb pc,G.pv = .slice (some ⟨pb,0,none⟩) G.ps.length pc∧w.cell? ⟨g,11,none⟩ = some (.slice (some ⟨pb,0,none⟩) G.ps.length pc)∧w.cell? ⟨pb,i,none⟩ = some (ptrV b)∧i < G.ps.length:=by
 obtain ⟨pb,pc,hpv,hpc,_,hpn⟩:=own_cell1 (i:=i) (u:=ptrV b) h.prow (by rw [List.getElem?_map,hi]; rfl)
 exact ⟨pb,pc,hpv,by rw [← hpv]; exact h.blk.cell 11,hpc,hpn⟩
theorem member_yes {Bs g i b : Nat} {w : World} {G : GmS} {P : PrS} (h : GmAt Bs w g G) (hi : G.ps[i]? = some (b,P)) : Calls Tryz.prog 20 #[ptrV g,.int .i64 (i : Int)] w fun e w' => e = .returned (.int .i64 (P.mem : Int))∧w' = w:=by
 have HP:=Lib.hid (processes_any h)
 obtain ⟨pb,pc,_,y1,y2,hpn⟩:=h.pcells hi
 have y3 : w.cell? ⟨b,1,none⟩ = some (.int .i64 (P.mem : Int)):=(h.prs _ _ hi).1.blk.cell 1
 obtain ⟨n,hn⟩ : ∃ n,n = G.ps.length:=⟨_,rfl⟩
 rw [← hn] at y1 hpn HP
 have d1 : decide ((i : Int) < 0) = false:=by simp
 have d2 : decide ((n : Int)≤(i : Int)) = false:=by simp; omega
 clear h hi hn
 go_enter Tryz.func20,Tryz.ntmps20
 go_wp2_with (go_at_call 17; refine HP.out.mono ?_; rintro en w2 ⟨rfl,hw2⟩; replace hw2:=hw2.symm; subst hw2)
 go_ret
 exact ⟨rfl,rfl⟩
def DcPost (P : PrS) (w : World) (e : Ending) (w' : World) : Prop :=
 ∃ v : Value,e = .returned (.tuple #[v,.bool P.dd])∧Below w.heap.size w w'∧(P.dd = true→w'.ownsRow w.heap.size 88 9 v P.dec.length (P.dec.flatMap chc))∧(P.dd = false→v = .slice none 0 0)
set_option maxRecDepth 100000 in
set_option maxHeartbeats 4000000 in
theorem decision_yes {Bs g i b : Nat} {w : World} {G : GmS} {P : PrS} (h : GmAt Bs w g G) (hi : G.ps[i]? = some (b,P)) (hsm : P.dec.length≤1000000) : Calls Tryz.prog 18 #[ptrV g,.int .i64 (i : Int)] w (DcPost P w):=by
 have HM:=Lib.hid (member_yes h hi)
 have HP:=(h.prs _ _ hi).1
 obtain ⟨pb,pc,_,y1,y2,hpn⟩:=h.pcells hi
 obtain ⟨A,c,hv,hr⟩:=own_shape HP.dec
 have y3 : w.cell? ⟨b,13,none⟩ = some (.bool P.dd):=HP.blk.cell 13
 have y4 : w.cell? ⟨b,12,none⟩ = some (.slice A P.dec.length c):=by rw [← hv]; exact HP.blk.cell 12
 obtain ⟨m,hm⟩ : ∃ m,P.dec.length = m:=⟨_,rfl⟩
 obtain ⟨n,hn⟩ : ∃ n,n = G.ps.length:=⟨_,rfl⟩
 obtain ⟨d,hd⟩ : ∃ d,d = P.dd:=⟨_,rfl⟩
 rw [← hn] at y1 hpn
 rw [hm] at y4 hsm
 rw [← hd] at y3
 have HR:=Lib.hid hr
 have HMl:=Lib.hid hm
 have HD:=Lib.hid hd
 have d1 : decide ((P.mem : Int) < 0) = false:=by simp
 clear h hi hn hr hv HP hm hd
 go_enter Tryz.func18,Tryz.ntmps18
 go_upto_region 1 with fail
 cases d with
 | false =>
  go_wp2_with (go_at_call 20; refine HM.out.mono ?_; rintro en w2 ⟨rfl,hw2⟩; replace hw2:=hw2.symm; subst hw2)
  go_ret2
  exact ⟨.slice none 0 0,by rw [← HD.out]; rfl,Below.refl _ _,fun h => (by rw [← HD.out] at h; cases h),fun _ => rfl⟩
 | true =>
  go_wp2_with (first
   | (go_at_call 20; refine HM.out.mono ?_; rintro en w2 ⟨rfl,hw2⟩; replace hw2:=hw2.symm; subst hw2)
   | (at_builtin; refine wpList_app rfl (.const (.slice none 0 0)) (.tmp 32) _ rfl w.heap.size 88 Ch.zero.val 9 16 Tryz.underlying36 info_ch rfl (by decide) (.slice none 0 0) 0 [] rfl ⟨by simp,.inl ⟨rfl,rfl⟩⟩ w.heap.size A m c (P.dec.flatMap chc) rfl (by rw [flat_length chc 9 P.dec (chc_len P.dec),HMl.out]) HR.out (fun u hu => by obtain ⟨s,_,hs⟩:=List.mem_flatMap.1 hu; exact one_ch s hs) (by omega) (by unfold maxLen; omega) (Nat.le_refl _) ?_; intro v3 w3 hown3 hg3 hat3))
  go_ret2
  rw [Nat.zero_add,List.nil_append] at hown3
  change w.grownBy w3 none at hg3
  refine ⟨v3,by rw [← HD.out]; rfl,(Below.refl _ w).grown hg3 (Nat.le_refl _) (fun k hk => by cases hk),fun _ => by rw [HMl.out]; exact hown3,fun h => (by rw [← HD.out] at h; cases h)⟩
end
end Go.Proofs.YtadllffeoibelaaGreat
