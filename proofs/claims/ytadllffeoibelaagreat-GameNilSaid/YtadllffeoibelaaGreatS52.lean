/-
  What these parts of the proof come to, functions walked and plain laws: GmDo0, Awk19, LGNil, Open, OpenSt. No condition.
-/
import Derived.Test.YtadllffeoibelaaGreatS48
import Derived.Test.YtadllffeoibelaaGreatS50
import Derived.Test.YtadllffeoibelaaGreatS51
import Derived.Test.YtadllffeoibelaaGreatS9
import Derived.ProofKit
import Derived.OpenShut
import Derived.Deep.Slices
import Derived.SizedLaws
namespace Go.Proofs.YtadllffeoibelaaGreat
section
open Go.RowKit
attribute [local go_sem ↓] Go.wp_at_zero Go.wp_at_succ loadNm loadVt loadSg loadEv
attribute [local go_sem] runNm runVt runSg runEv pickRow_some rowAt_drew rowAt_drewN
set_option maxRecDepth 100000 in
theorem do_bad {g : Nat} {w : World} (s : Stp) (hk : ¬ s.kind = 1∧¬ s.kind = 2∧¬ s.kind = 3) : Calls Tryz.prog 22 #[ptrV g,s.val] w fun e w' => e = .returned (.int .i64 1)∧Below w.heap.size w w':=by
 obtain ⟨w1,hw1⟩ : ∃ w1,w1 = w.alloc (.cells s.cells 48):=⟨_,rfl⟩
 have hb1 : Below w.heap.size w w1:=by rw [hw1]; exact (Below.refl _ _).alloc (Nat.le_refl _) _
 obtain ⟨q,hq⟩ : ∃ q,q = w.heap.size:=⟨_,rfl⟩
 have hQ1 : Blk w1 q 48 s.cells:=by rw [hw1,hq]; exact Blk.new w _ _
 obtain ⟨k,hkk⟩ : ∃ k,k = s.kind:=⟨_,rfl⟩
 have y3 : w1.cell? ⟨q,0,none⟩ = some (.int .i64 k):=by rw [hkk]; exact hQ1.cell 0
 rw [← hkk] at hk
 have e1 : (k == 1) = false:=by simpa using hk.1
 have e2 : (k == 2) = false:=by simpa using hk.2.1
 have e3 : (k == 3) = false:=by simpa using hk.2.2
 have HW1:=Lib.hid hw1
 have HQ:=Lib.hid hq
 clear hw1 hq hQ1 hk hkk
 go_enter Tryz.func22,Tryz.ntmps22
 go_upto_region 3 with fail
 simp only [← HW1.out,← HQ.out]
 go_wp2
 go_ret
 exact ⟨rfl,hb1⟩
end
section
open Go.RowKit
attribute [local go_sem ↓] Go.wp_at_zero Go.wp_at_succ loadNm loadVt loadSg loadEv
attribute [local go_sem] runNm runVt runSg runEv pickRow_some rowAt_drew rowAt_drewN
theorem pay_ne : ¬ payF Nm.zero 0 = Nm.zero:=by unfold payF; decide +kernel
theorem NewG.one {G : GmS} (h : NewG 1 0 0 Nm.zero G) : AwI (parF Nm.zero) (payF Nm.zero 0) 0 G∧(∀ (b : Nat) (P : PrS),G.ps = [(b,P)]→P = newP (0,payF Nm.zero 0))∧(∃ y,G.ks = [y])∧G.sg = [(nilS,[])]:=by
 have hM : G.M = 1:=h.M
 obtain ⟨ms,h1,h2⟩:=h.ps
 have hi : idsF (xOf (bits .and .i64 1 0)) 10 = []:=by decide
 rw [hM,hi] at h1
 have h1' : ms = [0]:=h1
 subst h1'
 have h3 : G.ps.map (·.2) = [newP (0,payF Nm.zero 0)]:=h2
 have h4 : ∃ b,G.ps = [(b,newP (0,payF Nm.zero 0))]:=by
  rcases hp : G.ps with _ | ⟨⟨b,P⟩,_ | ⟨q,l⟩⟩
  ·rw [hp] at h3; simp at h3
  ·rw [hp] at h3
   simp only [List.map_cons,List.map_nil,List.cons.injEq,and_true] at h3
   exact ⟨b,by rw [h3]⟩
  ·rw [hp] at h3; simp at h3
 obtain ⟨b,hb⟩:=h4
 refine ⟨⟨b,_,hb,hM,h.par,rfl,rfl,rfl,rfl,rfl⟩,fun b' P' h => ?_,?_,h.sg⟩
 ·rw [hb] at h
  simp only [List.cons.injEq,Prod.mk.injEq,and_true] at h
  exact h.2.symm
 ·have h5:=congrArg List.length h.ks
  simp at h5
  rcases hk : G.ks with _ | ⟨y,_ | ⟨z,l⟩⟩
  ·rw [hk] at h5; simp at h5
  ·exact ⟨y,rfl⟩
  ·rw [hk] at h5; simp at h5
theorem act_one {Bs g b : Nat} {w : World} {G : GmS} {P : PrS} (h : GmAt Bs w g G) (hBs : Bs≤w.heap.size) (hG : NewG 1 0 0 Nm.zero G) (hp : G.ps[0]? = some (b,P)) :
  Calls Tryz.prog 39 #[ptrV g,ptrV b] w fun e w' => e = .returned (.tuple #[])∧Below Bs w w'∧∃ G',GmAt Bs w' g G'∧AwI (parF Nm.zero) (payF Nm.zero 0) 4 G':=by
 obtain ⟨hI,hP,⟨y,hy⟩,hs⟩:=hG.one
 obtain ⟨b',P',h1,h2,h3,h4,h5,h6,h7,h8⟩:=hI
 rw [h1] at hp
 injection hp with hp
 injection hp with hp hp'
 subst hp
 subst hp'
 have hPe:=hP b' P' h1
 have hD:=AwI.D (k:=0) h8
 obtain ⟨par,hpar⟩ : ∃ par,par = parF Nm.zero:=⟨_,rfl⟩
 obtain ⟨a,ha⟩ : ∃ a,a = payF Nm.zero 0:=⟨_,rfl⟩
 have hne : ¬ a = Nm.zero:=by rw [ha]; exact pay_ne
 rw [← hpar] at h3 h8 hD ⊢
 rw [← ha] at h5 h8 hD ⊢
 have k : ActK 0 b' 0 0 par 1 a G.ks 0 G P':=⟨by rw [h1]; rfl,h4,by rw [hPe],h5,h3,h2,rfl,⟨_,by rw [hs]; rfl,Nat.zero_le _⟩,by
  have:=congrArg List.length h8
  rw [List.length_map] at this
  rw [this]
  exact Nat.zero_le _,fun x hx => by
  have : x.vote ∈ P'.L.map (·.vote):=List.mem_map_of_mem hx
  rw [h8] at this
  exact absurd this (by simp [aL]),by omega⟩
 have hI0 : AwI par a 0 (G.actd 0 b' P'):=⟨b',{ P' with acts:=P'.acts + 1 },by show G.ps.set 0 _ = _; rw [h1]; rfl,h2,h3,h4,h5,h6,h7,h8⟩
 have due : ∀ {j : Nat} {G1 : GmS} {o : Option Vt},1≤j→j≤4→AwI par a j G1→DueA 0 G1 o→(j = 4∧o = none)∨(j < 4∧∃ v,o = some v∧aL par a j ++ [v] = aL par a (j + 1)∧ValidP v):=fun {j G1 o} hj1 hj4 hA hD => by
  obtain ⟨b1,P1,e1,e2,e3,e4,e5,e6,e7,e8⟩:=hA
  obtain ⟨b2,P2,f1,f2⟩:=hD
  rw [e1] at f1
  injection f1 with f1
  injection f1 with f1 f1'
  subst f1
  subst f1'
  rw [e2,e3,e4,(AwI.D e8).1] at f2
  exact aw_next hne hj1 hj4 f2
 have hown : prpO par 0 P'.D = false:=by rw [hD.1]; rfl
 refine (act_any (fun G' => ∃ j,1≤j∧j≤4∧AwI par a j G') h hBs (by omega) k (by rw [hy]; rfl) (by omega) (by omega) ?_ ?_ ?_ ?_).mono ?_
 ·intro h; rw [hown] at h; cases h
 ·intro _ G' hs'
  exact ⟨1,by omega,by omega,hI0.more hs' rfl⟩
 ·intro _ hn
  refine absurd ⟨?_,?_⟩ hn
  ·have:=aL_valid (par:=par) hne 1 (a1 par a) (by simp [aL])
   exact this
  ·rw [h6]; omega
 ·rintro G1 G2 v ⟨j,hj1,hj4,hA⟩ hdue hsg
  rcases due hj1 hj4 hA hdue with ⟨_,h⟩ | ⟨h,v',h',hv,_⟩
  ·cases h
  ·injection h' with h'
   subst h'
   exact ⟨j + 1,by omega,by omega,hA.more hsg hv⟩
 ·rintro e w' ⟨rfl,hb,G',P'',hG',hK',⟨j,hj1,hj4,hA⟩,hend⟩
  refine ⟨rfl,hb,G',hG',?_⟩
  rcases hend with hend | hend
  ·rcases due hj1 hj4 hA hend with ⟨rfl,_⟩ | ⟨_,v,h,_⟩
   ·exact hA
   ·cases h
  ·exfalso
   obtain ⟨b1,P1,e1,e2,e3,e4,e5,e6,e7,e8⟩:=hA
   have hi:=hK'.hi
   rw [e1] at hi
   injection hi with hi
   injection hi with _ hi
   subst hi
   omega
theorem DecTo.one {G G' : GmS} {par a : Nm} (hI : AwI par a 4 G) (h : DecTo G.ps.length G G') : ∃ (b : Nat) (P : PrS) (c : Ch),G'.ps = [(b,P)]∧P.dd = true∧P.dec = [c]∧c.value = a:=by
 obtain ⟨b,P,h1,h2,h3,h4,h5,h6,h7,h8⟩:=hI
 obtain ⟨ps',rfl,hl,hx⟩:=h
 rw [h1] at hl
 rcases ps' with _ | ⟨⟨b',P'⟩,_ | ⟨q,l⟩⟩
 ·simp at hl
 ·obtain ⟨P0,hP0,hd⟩:=hx 0 b' P' rfl
  rw [h1] at hP0
  injection hP0 with hP0
  injection hP0 with e1 e2
  subst e2
  rw [if_pos (by rw [h1]; simp)] at hd
  obtain ⟨v,d,ok,rfl,⟨hd,_⟩ | ⟨_,L,_,hL,rfl⟩⟩:=hd
  ·rw [h7] at hd; cases hd
  ·rw [h2,h3,(AwI.D h8).1] at hL
   obtain ⟨rfl,o,rfl,ho⟩:=aw_dec hL
   exact ⟨b',_,chOf o,rfl,rfl,rfl,ho⟩
 ·simp at hl
set_option maxRecDepth 100000 in
set_option maxHeartbeats 8000000 in
theorem awake19_any (w : World) : Calls Tryz.prog 13 #[] w fun e w' => e = .returned (.bool true)∧Below w.heap.size w w':=by
 obtain ⟨Bs,hBs⟩ : ∃ Bs,Bs = w.heap.size:=⟨_,rfl⟩
 have HNew : Hid (Calls Tryz.prog 27 #[.agg #[.int .i64 1,.int .i64 0,.int .i64 0,.int .u8 0,.int .u8 0,.int .u8 0,.int .u8 0,.int .u8 0,.int .u8 0,.int .u8 0,.int .u8 0]] w fun e w' => ∃ g G,e = .returned (.tuple #[ptrV g,.int .i64 0])∧Below Bs w w'∧GmAt Bs w' g G∧NewG 1 0 0 Nm.zero G):=by rw [hBs]; exact new_any 1 (by omega) 0 0 Nm.zero w
 obtain ⟨a,ha⟩ : ∃ a,a = payF Nm.zero 0:=⟨_,rfl⟩
 have hne : ¬ a = Nm.zero:=by rw [ha]; exact pay_ne
 have eP : ∀ W,(Op.equalIn 10000 24 (.agg a.cells) (.agg zero8)).run Tryz.prog W = .ok false W:=fun W => by
  have:=eqNm a Nm.zero W 9998
  rwa [decide_eq_false hne] at this
 have HDo : Hid (∀ V g G,Bs≤V.heap.size→GmAt Bs V g G→NewG 1 0 0 Nm.zero G→Calls Tryz.prog 22 #[ptrV g,.agg #[.int .i64 1,.int .i64 0,.int .i64 0,.int .i64 0,.int .i64 0,.int .i64 0,.int .i64 0,.int .i64 0,.int .i64 0,.int .u8 0,.int .u8 0,.int .u8 0,.int .u8 0,.int .u8 0,.int .u8 0,.int .u8 0,.int .u8 0,.int .u8 0,.int .u8 0,.int .u8 0,.int .u8 0,.int .u8 0,.int .u8 0,.int .u8 0,.int .u8 0]] V fun e w' => e = .returned (.int .i64 0)∧Below Bs V w'∧∃ G' b P c,GmAt Bs w' g G'∧G'.ps = [(b,P)]∧P.dd = true∧P.dec = [c]∧c.value = a):=fun V g G hV hG hN => by
  obtain ⟨⟨b,P,h1,_⟩,_⟩:=hN.one
  have hp : G.ps[0]? = some (b,P):=by rw [h1]; rfl
  refine (do_act (p:=0) ⟨1,0,0,⟨0,0,0,0,0,0,Nm.zero,Nm.zero⟩⟩ (AwI (parF Nm.zero) (payF Nm.zero 0) 4) hG hV rfl rfl hp (fun V' hV' hB' => act_one hV' hB' hN hp) (fun G' hG' => hG'.good pay_ne (by omega))).mono ?_
  rintro e w' ⟨rfl,hb,G',G'',hI,hT,hG''⟩
  obtain ⟨b,P,c,h1,h2,h3,h4⟩:=hT.one hI
  exact ⟨rfl,hb,G'',b,P,c,hG'',h1,h2,h3,by rw [h4,ha]⟩
 have HBs:=Lib.hid hBs
 have hBw : Bs≤w.heap.size:=by omega
 clear hBs ha hne
 go_enter Tryz.func13,Tryz.ntmps13
 go_upto_region 2 with (go_at_call 27; refine HNew.out.mono ?_; rintro en w1 ⟨g,G,rfl,hb1,hG1,hN1⟩; have HG1:=Lib.hid hG1; have HN1:=Lib.hid hN1; clear hG1 hN1)
 have hBs1 : Bs≤w1.heap.size:=Nat.le_trans hBw hb1.size
 have HDo1:=Lib.hid (HDo.out w1 g G hBs1 HG1.out HN1.out)
 clear HNew HDo
 go_upto_region 5 with (go_at_call 22; refine HDo1.out.mono ?_; rintro en w2 ⟨rfl,hb2,G2,b,P,c,hG2,hps,hdd,hdec,hcv⟩)
 have hb02 : Below Bs w w2:=hb1.trans hb2
 have hBs2 : Bs≤w2.heap.size:=Nat.le_trans hBs1 hb2.size
 have HDc : Hid (Calls Tryz.prog 18 #[ptrV g,.int .i64 0] w2 fun e w' => ∃ ab cc,e = .returned (.tuple #[.slice (some ⟨ab,0,none⟩) 1 cc,.bool true])∧Below w2.heap.size w2 w'∧rowAt w' ab 1 8 = some a.cells):=by
  have h1 : G2.ps[0]? = some (b,P):=by rw [hps]; rfl
  refine (decision_yes hG2 h1 (by rw [hdec]; simp)).mono ?_
  rintro e w' ⟨v,rfl,hb,hown,_⟩
  have hown:=hown hdd
  rw [hdec] at hown
  rcases hown.2 with ⟨_,h0⟩ | ⟨ab,cap,cur,rfl,_,hh,_,_,hsz,htk⟩
  ·cases h0
  ·refine ⟨ab,cap,by rw [hdd]; rfl,hb,?_⟩
   rw [← hcv]
   refine rowAt_of (fun j u hu => ?_) rfl
   have hj : j < 8:=(List.getElem?_eq_some_iff.1 hu).1
   rw [Blk.cell (show Blk w' ab 88 cur from hh)]
   have h2 : (cur.toList.take (1 * 9))[1 + j]? = some u:=by
    rw [show cur.toList.take (1 * 9) = [c].flatMap chc from htk]
    rcases (by omega : j = 0∨j = 1∨j = 2∨j = 3∨j = 4∨j = 5∨j = 6∨j = 7) with rfl | rfl | rfl | rfl | rfl | rfl | rfl | rfl <;> exact hu
   rw [List.getElem?_take,if_pos (by omega)] at h2
   simpa using h2
 have HPr : Hid (∀ V,Below w2.heap.size w2 V→Calls Tryz.prog 17 #[ptrV g] V fun e w' => e = .returned (.int .i64 1)∧w' = V):=fun V hV => by
  have:=processes_any (hG2.below hV)
  rw [hps] at this
  exact this
 have HD0 : Hid (∀ V,Calls Tryz.prog 22 #[ptrV g,.agg #[.int .i64 0,.int .i64 0,.int .i64 0,.int .i64 0,.int .i64 0,.int .i64 0,.int .i64 0,.int .i64 0,.int .i64 0,.int .u8 0,.int .u8 0,.int .u8 0,.int .u8 0,.int .u8 0,.int .u8 0,.int .u8 0,.int .u8 0,.int .u8 0,.int .u8 0,.int .u8 0,.int .u8 0,.int .u8 0,.int .u8 0,.int .u8 0,.int .u8 0]] V fun e w' => e = .returned (.int .i64 1)∧Below V.heap.size V w'):=fun V => do_bad ⟨0,0,0,⟨0,0,0,0,0,0,Nm.zero,Nm.zero⟩⟩ (by simp)
 clear hG2 hps hdd hdec hcv HG1 HN1 HDo1 hb1 hb2
 go_upto_region 6 with (go_at_call 18; refine HDc.out.mono ?_; rintro en w3 ⟨ab,cc,rfl,hb3,x3⟩)
 have hb03 : Below Bs w w3:=hb02.trans (hb3.mono hBs2)
 go_wp2_with (first
  | (go_at_call 17; refine (HPr.out _ hb3).mono ?_; rintro en w4 ⟨rfl,hw4⟩; replace hw4:=hw4.symm; subst hw4)
  | (go_at_call 22; refine (HD0.out _).mono ?_; rintro en w5 ⟨rfl,hb5⟩)
  | fail)
 go_ret
 exact ⟨rfl,by rw [← HBs.out]; exact hb03.trans (hb5.mono (Nat.le_trans hBs2 hb3.size))⟩
end
section
open Go.RowKit
theorem loadStp (p : Value) : Instr.loadAt 48 p = myLoad 48 p:=rfl
theorem runStp (b o : Nat) (w : World) : (myLoad 48 (.pointer (some ⟨b,o,none⟩))).run Tryz.prog w = pickRow 48 b o w (rowAt w b o 25):=run_myLoad _ 25 b o w _ Tryz.underlying48 rfl (by kernel_rfl)
attribute [local go_sem ↓] Go.wp_at_zero Go.wp_at_succ loadNm loadVt loadSg loadEv loadStp
attribute [local go_sem] runNm runVt runSg runEv runStp pickRow_some rowAt_drew rowAt_drewN
set_option maxRecDepth 100000 in
set_option maxHeartbeats 8000000 in
theorem gameNil_any (s : Stp) (p : Int) (w : World) : Calls Tryz.prog 9 #[s.val,.int .i64 p] w fun e w' => e = .returned (.bool true)∧Below w.heap.size w w':=by
 obtain ⟨w1,hw1⟩ : ∃ w1,w1 = w.alloc (.cells s.cells 48):=⟨_,rfl⟩
 have hb1 : Below w.heap.size w w1:=by rw [hw1]; exact (Below.refl _ _).alloc (Nat.le_refl _) _
 obtain ⟨q,hq⟩ : ∃ q,q = w.heap.size:=⟨_,rfl⟩
 have hQ1 : Blk w1 q 48 s.cells:=by rw [hw1,hq]; exact Blk.new w _ _
 have x1 : rowAt w1 q 0 25 = some s.cells:=hQ1.row 25 rfl
 have hbx : Below w1.heap.size w1 w1:=Below.refl _ _
 have eZ : ∀ W,(Op.equalIn 10000 24 (.agg zero8) (.agg zero8)).run Tryz.prog W = .ok true W:=fun W => by
  have:=eqNm Nm.zero Nm.zero W 9998
  rwa [decide_eq_true rfl] at this
 have H1:=Lib.hid (fun W => decision_nil p W)
 have H2:=Lib.hid (fun W => do_nil s W)
 have H3:=Lib.hid processes_nil
 have H4:=Lib.hid (fun W => member_nil p W)
 have H5:=Lib.hid honest_nil
 have H6:=Lib.hid keys_nil
 have H7:=Lib.hid parent_nil
 have H8:=Lib.hid (fun W => held_nil p W)
 have H9:=Lib.hid (fun W => signed_nil p W)
 have H10:=Lib.hid awake19_any
 have HW1:=Lib.hid hw1
 have HQ:=Lib.hid hq
 have hsw:=hb1.size
 clear hw1 hq hQ1
 go_enter Tryz.func9,Tryz.ntmps9
 go_upto_region 1 with fail
 simp only [← HW1.out,← HQ.out]
 go_upto_region 3 with (go_at_call 18; refine (H1.out _).mono ?_; rintro en w2 ⟨rfl,hw2⟩; replace hw2:=hw2.symm; subst hw2)
 go_wp2_with (first
  | (go_at_call 22; refine (H2.out _).mono ?_; rintro en w3 ⟨rfl,hb3⟩)
  | (go_at_call 17; refine (H3.out _).mono ?_; rintro en w4 ⟨rfl,hw4⟩; replace hw4:=hw4.symm; subst hw4)
  | (go_at_call 20; refine (H4.out _).mono ?_; rintro en w4 ⟨rfl,hw4⟩; replace hw4:=hw4.symm; subst hw4)
  | (go_at_call 16; refine (H5.out _).mono ?_; rintro en w4 ⟨rfl,hw4⟩; replace hw4:=hw4.symm; subst hw4)
  | (go_at_call 31; refine (H6.out _).mono ?_; rintro en w4 ⟨rfl,hw4⟩; replace hw4:=hw4.symm; subst hw4)
  | (go_at_call 30; refine (H7.out _).mono ?_; rintro en w5 ⟨rfl,hb5⟩)
  | (go_at_call 23; refine (H8.out _).mono ?_; rintro en w6 ⟨rfl,hw6⟩; replace hw6:=hw6.symm; subst hw6)
  | (go_at_call 25; refine (H9.out _).mono ?_; rintro en w6 ⟨rfl,hw6⟩; replace hw6:=hw6.symm; subst hw6)
  | (go_at_call 13; refine (H10.out _).mono ?_; rintro en w7 ⟨rfl,hb7⟩)
  | fail)
 go_ret
 exact ⟨rfl,((hb1.trans (hb3.mono hsw)).trans (hb5.mono (Nat.le_trans hsw hb3.size))).trans (hb7.mono (Nat.le_trans hsw (Nat.le_trans hb3.size hb5.size)))⟩
end
section
open Go.ChangeShapes Go.WideShapes Go.ChangeAt Go.RowKit Go.Deep
theorem cells5 : Tryz.prog.cellsOf 5 = 1:=by kernel_rfl
theorem cells3 : Tryz.prog.cellsOf 3 = 1:=by kernel_rfl
theorem cells30 : Tryz.prog.cellsOf 22 = 1:=by kernel_rfl
theorem cells39 : Tryz.prog.cellsOf 24 = 8:=by kernel_rfl
theorem cells41 : Tryz.prog.cellsOf 46 = 22:=by kernel_rfl
section
variable {H : Type} {enc : TypeId × Value→H} {w : World} {base : Nat} {spare : Nat→Bool} {held : Bool}
theorem wf_byte {n : Int} (h : (Lit.int .u8 n).wf = true) : .int .u8 n = B (UInt8.ofNat n.toNat):=by
 have hx : 0≤n∧n≤255:=by simpa [Lit.wf,IntKind.min,IntKind.max,IntKind.signed,IntKind.bits] using h
 rw [Value.int.injEq]
 refine ⟨rfl,?_⟩
 simp; omega
theorem wf_int {n : Int} (h : (Lit.int .i64 n).wf = true) : -9223372036854775808≤n∧n≤9223372036854775807:=by
 simpa [Lit.wf,IntKind.min,IntKind.max,IntKind.signed,IntKind.bits] using h
theorem open_byte {fuel : Nat} {cs : List Value} {x : DataW H × List MemPlace} (h : DataW.trod enc Tryz.prog w base spare held fuel 5 cs = some x) : ∃ b : UInt8,cs = [B b]:=by
 obtain ⟨n,rfl,_,hw⟩:=DataW.trod_int Tryz.underlying5 h
 exact ⟨_,by rw [wf_byte hw]⟩
theorem open_name {fuel : Nat} {cs : List Value} {x : DataW H × List MemPlace} (h : DataW.trod enc Tryz.prog w base spare held fuel 24 cs = some x) :
  ∃ n : Nm,cs = [B n.b0,B n.b1,B n.b2,B n.b3,B n.b4,B n.b5,B n.b6,B n.b7]:=by
 obtain ⟨xs,m,_,_,hlen,hx,hf⟩:=DataW.trod_array Tryz.underlying24 h
 rw [cells39] at hlen
 rw [cells5] at hf
 match cs,hlen with
 | [c0,c1,c2,c3,c4,c5,c6,c7],_ =>
  have key : ∀ i,i < 8→∃ b : UInt8,(([c0,c1,c2,c3,c4,c5,c6,c7] : List Value).drop (i * 1)).take 1 = [B b]:=fun i hi => by
   have:=hf i hi
   rw [List.getElem?_eq_getElem (by omega)] at this
   exact open_byte this
  obtain ⟨b0,h0⟩:=key 0 (by omega)
  obtain ⟨b1,h1⟩:=key 1 (by omega)
  obtain ⟨b2,h2⟩:=key 2 (by omega)
  obtain ⟨b3,h3⟩:=key 3 (by omega)
  obtain ⟨b4,h4⟩:=key 4 (by omega)
  obtain ⟨b5,h5⟩:=key 5 (by omega)
  obtain ⟨b6,h6⟩:=key 6 (by omega)
  obtain ⟨b7,h7⟩:=key 7 (by omega)
  simp at h0 h1 h2 h3 h4 h5 h6 h7
  exact ⟨⟨b0,b1,b2,b3,b4,b5,b6,b7⟩,by simp [h0,h1,h2,h3,h4,h5,h6,h7]⟩
set_option maxRecDepth 100000 in
theorem open_vote {fuel : Nat} {cs : List Value} {x : DataW H × List MemPlace} (h : DataW.trod enc Tryz.prog w base spare held fuel 46 cs = some x) :
  ∃ v : Vt,cs = v.cells.toList∧v.ok:=by
 obtain ⟨xs,m,_,_,hlen,hx,hf⟩:=DataW.trod_struct Tryz.underlying46 h
 rw [cells41] at hlen
 match cs,hlen with
 | [c0,c1,c2,c3,c4,c5,c6,c7,c8,c9,c10,c11,c12,c13,c14,c15,c16,c17,c18,c19,c20,c21],_ =>
  have key:=fun i f (hi : _) => (hf i f hi).trans (List.getElem?_eq_getElem (show i < xs.length by rw [hx]; exact (Array.getElem?_eq_some_iff.1 hi).1))
  obtain ⟨k0,h0,_,_⟩:=DataW.trod_int Tryz.underlying3 (key 0 _ rfl)
  obtain ⟨k1,h1,_,_⟩:=DataW.trod_int Tryz.underlying3 (key 1 _ rfl)
  obtain ⟨k2,h2,_,_⟩:=DataW.trod_int Tryz.underlying3 (key 2 _ rfl)
  obtain ⟨k3,h3,_,_⟩:=DataW.trod_int Tryz.underlying3 (key 3 _ rfl)
  obtain ⟨k4,h4,_,_⟩:=DataW.trod_int Tryz.underlying3 (key 4 _ rfl)
  obtain ⟨k5,h5,_,w5⟩:=DataW.trod_int Tryz.underlying22 (key 5 _ rfl)
  obtain ⟨n6,h6⟩:=open_name (key 6 _ rfl)
  obtain ⟨n7,h7⟩:=open_name (key 7 _ rfl)
  simp [cells3,cells30,cells39] at h0 h1 h2 h3 h4 h5 h6 h7
  refine ⟨⟨k0,k1,k2,k3,k4,k5,n6,n7⟩,?_,wf_int w5⟩
  simp [h0,h1,h2,h3,h4,h5,h6,h7]
end
end
section
open Go.ChangeShapes Go.WideShapes Go.ChangeAt Go.RowKit
variable {H : Type} {enc : TypeId × Value→H} {w : World} {base : Nat} {spare : TypeId→Bool} {held : Bool}
theorem cellsSt : Tryz.prog.cellsOf 48 = 25:=by kernel_rfl
theorem agg_of {cs xs : Array Value} {v : Value} (h : v = .agg cs) (hv : v.cells.toList = xs.toList) : v = .agg xs:=by
 subst h
 have : cs = xs:=by
  apply Array.toList_inj.1
  simpa [Value.cells] using hv
 rw [this]
set_option maxRecDepth 100000 in
theorem open_step {fuel : Nat} {cs : List Value} {x : DataW H × List MemPlace} (h : DataW.trod enc Tryz.prog w base spare held fuel 48 cs = some x) : ∃ s : Stp,cs = s.cells.toList:=by
 obtain ⟨xs,m,_,_,hlen,hx,hf⟩:=DataW.trod_struct Tryz.underlying48 h
 rw [cellsSt] at hlen
 match cs,hlen with
 | [c0,c1,c2,c3,c4,c5,c6,c7,c8,c9,c10,c11,c12,c13,c14,c15,c16,c17,c18,c19,c20,c21,c22,c23,c24],_ =>
  have key:=fun i f (hi : _) => (hf i f hi).trans (List.getElem?_eq_getElem (show i < xs.length by rw [hx]; exact (Array.getElem?_eq_some_iff.1 hi).1))
  obtain ⟨k0,h0,_,_⟩:=DataW.trod_int Tryz.underlying3 (key 0 _ rfl)
  obtain ⟨k1,h1,_,_⟩:=DataW.trod_int Tryz.underlying3 (key 1 _ rfl)
  obtain ⟨k2,h2,_,_⟩:=DataW.trod_int Tryz.underlying3 (key 2 _ rfl)
  obtain ⟨v,h3,_⟩:=open_vote (key 3 _ rfl)
  simp [cells3,cells41] at h0 h1 h2 h3
  refine ⟨⟨k0,k1,k2,v⟩,?_⟩
  simp [h0,h1,h2,h3]
end
end Go.Proofs.YtadllffeoibelaaGreat
