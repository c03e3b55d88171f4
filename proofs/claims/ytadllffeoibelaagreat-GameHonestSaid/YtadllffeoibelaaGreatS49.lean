/-
  What these parts of the proof come to, functions walked and plain laws: GmAct, GmStep, GmPlay, Same, List8. No condition.
-/
import Derived.Test.YtadllffeoibelaaGreatS43
import Derived.Deep.DeepCutAuto
import Derived.Test.YtadllffeoibelaaGreatS6
import Derived.Test.YtadllffeoibelaaGreatS48
import Derived.Test.YtadllffeoibelaaGreatS22
namespace Go.Proofs.YtadllffeoibelaaGreat
set_option maxRecDepth 100000
set_option maxHeartbeats 32000000
set_option linter.all false
section
open Go.RowKit
attribute [local go_sem ↓] Go.wp_at_zero Go.wp_at_succ An Au Av Aw
attribute [local go_sem] BD BH BI BJ AN AW AQ
def JO(b:Nat)(w:World):Nat:=match w.cell? ⟨b,3,none⟩with
 |some (.int _ x)=>x.toNat
 |_=>0
theorem Cu.usedAt{Bs b:Nat}{w:World}{P:PrS}(h:Cu Bs w b P):JO b w=P.leaf:=by
 unfold Proofs.YtadllffeoibelaaGreat.JO;rw[show w.cell? ⟨b,3,none⟩=some (.int .i64 (P.leaf:Int))from h.blk.cell 3];simp
theorem Dr(o:Option Vt):(Ex o).size=22:=by cases o <;> rfl
theorem JP{o:Option Vt}{u:Value}(h:u∈(Ex o).toList):u.oneCell'=true:=by
 cases o with
 |none=>exact CE h
 |some v=>exact BM v h
theorem PrS.D_len(P:PrS):P.D.length≤P.L.length:=by
 show((CD _).map _).length≤_;rw[AY];have:=C7 (P.L.map Sg.vs);rwa[AY]at this
theorem Qu(D:List Vt):(Dj D).length≤D.length:=by
 unfold Dj;rw[AY];exact List.length_filter_le _ _
section
variable {Bs g i b mem c:Nat}{a1:Int}{par pay:Nm}{M:Int}{ks:List KyS}{V:World}{G:GmS}{P:PrS}
theorem Fi(h:A9 Bs V g G)(k:Ep i b mem a1 par M pay ks c G P):V.cell? ⟨g,0,none⟩=some (.int .i64 M)∧AK V g 2 8=some par.cells∧V.cell? ⟨b,1,none⟩=some (.int .i64 (mem:Int))∧V.cell? ⟨b,2,none⟩=some (.int .i64 a1)∧AK V b 4 8=some pay.cells:=by
 have hP:=(h.prs _ _ k.hi).1;refine⟨?_,?_,?_,?_,?_⟩
 ·rw[←k.M];exact h.blk.cell 0
 ·rw[←k.par];exact h.row_par
 ·rw[←k.mem];exact hP.blk.cell 1
 ·rw[←k.acts];exact hP.blk.cell 2
 ·rw[←k.pay];exact hP.row_pay
theorem Ep.len'(k:Ep i b mem a1 par M pay ks c G P)(hc:c≤900000):P.L.length≤999000:=by
 have:=k.len;have:=k.lf;omega
theorem N3(h:A9 Bs V g G)(k:Ep i b mem a1 par M pay ks c G P)(hc:c≤900000):Calls Tryz.prog 73 #[Am g,Am b] V (IR P.D par mem V):=by
 have:=Km h k.hi (by have:=k.len' hc;omega);rwa[k.par,k.mem]at this
theorem SG(h:A9 Bs V g G)(k:Ep i b mem a1 par M pay ks c G P)(hc:c≤900000):Calls Tryz.prog 44 #[Am b] V (EK V P.D):=
 F8 (h.prs _ _ k.hi).1 (by have:=k.len' hc;omega)
def SgA(Bs g i:Nat)(v:Vt)(G:GmS)(P:PrS)(V:World)(e:Ending)(w':World):Prop:=∃ok:Bool,e= .returned (.bool ok)∧Below Bs V w'∧
 ((ok=false∧¬(Ae v∧P.leaf<1024)∧A9 Bs w' g G)∨(ok=true∧∃G',Lx i v G G'∧A9 Bs w' g G'))
theorem SH{y:KyS}(h:A9 Bs V g G)(k:Ep i b mem a1 par M pay ks c G P)(hc:c≤900000)(hB:Bs≤V.heap.size)(hk:ks[mem]? =some y)(v:Vt)(hv:v.ok):Calls Tryz.prog 74 #[Am g,Am b,v.val] V (SgA Bs g i v G P V):=by
 obtain⟨⟨sv0,sl⟩,hs,hsl⟩:=k.sg;have hlf:=k.lf;have hK:G.ks[P.mem]? =some y:=by rw[k.ks,k.mem];exact hk
 have hS:G.sg[P.mem]? =some (sv0,sl):=by rw[k.mem];exact hs
 refine(Qj h hB k.hi hK hS v hv (by have:=k.len' hc;omega) (by have:sl.length≤c+P.leaf:=hsl;omega)).mono ?_;rintro e w' ⟨hb,⟨h1,rfl,h2⟩|⟨h1,rfl,va,vs,L,h2,h3⟩⟩
 ·exact⟨false,rfl,hb,.inl ⟨rfl,h1,h2⟩⟩
 ·exact⟨true,rfl,hb,.inr ⟨rfl,_,⟨b,P,y,sv0,sl,va,vs,L,k.hi,hK,hS,h1,h2,rfl⟩,h3⟩⟩
theorem SgA.cells{v:Vt}{W:World}{e:Ending}(h:SgA Bs g i v G P W e V)(k:Ep i b mem a1 par M pay ks c G P):V.cell? ⟨g,0,none⟩=some (.int .i64 M)∧AK V g 2 8=some par.cells∧V.cell? ⟨b,1,none⟩=some (.int .i64 (mem:Int))∧V.cell? ⟨b,2,none⟩=some (.int .i64 a1)∧AK V b 4 8=some pay.cells:=by
 obtain⟨_,_,_,⟨_,_,h⟩|⟨_,G',hs,h⟩⟩:=h
 ·exact Fi h k
 ·obtain⟨P',k',_⟩:=hs.actK k;exact Fi h k'
end
def SI(Bs g i b mem c:Nat)(a1:Int)(par pay:Nm)(M:Int)(ks:List KyS)(Inv:GmS→Prop)(w:World)(e:Ending)(w':World):Prop:=
 e= .returned (.tuple #[])∧Below Bs w w'∧∃(G':GmS) (P':PrS),A9 Bs w' g G'∧Ep i b mem a1 par M pay ks c G' P'∧Inv G'∧(M1 i G' none∨P'.leaf=1024)
theorem N4{Bs g i b mem c:Nat}{acts:Int}{par pay:Nm}{M:Int}{ks:List KyS}{w:World}{G:GmS}{P:PrS}{y:KyS}(Inv:GmS→Prop)(h:A9 Bs w g G)(hBs:Bs≤w.heap.size)(hc:c≤900000)(k:Ep i b mem acts par M pay ks c G P)(hk:ks[mem]? =some y)(hm:mem≤9)(ha:0≤acts∧acts<1000000)(hA:Fm par mem P.D=true→Inv (G.actd i b P))(hB:Fm par mem P.D=false→∀G',Lx i (Lw par mem pay) (G.actd i b P) G'→Inv G')(hC:Fm par mem P.D=false→¬(Ae (Lw par mem pay)∧P.leaf<1024)→Inv (G.actd i b P))(hS:∀G1 G2 v,Inv G1→M1 i G1 (some v)→Lx i v G1 G2→Inv G2):Calls Tryz.prog 39 #[Am g,Am b] w (SI Bs g i b mem c (acts+1) par pay M ks Inv w):=by
 have hP:=(h.prs _ _ k.hi).1;have hbB:Bs≤b:=(h.prs _ _ k.hi).2;have y2:w.cell? ⟨b,2,none⟩=some (.int .i64 acts):=by rw[←k.acts];exact hP.blk.cell 2
 have y2f:w.frozen? ⟨b,2,none⟩=false:=hP.blk.frozen 2;obtain⟨a1,ha1⟩:∃a1,a1=acts+1:=⟨_,rfl⟩;have hwa:IntKind.i64.wrap (acts+1)=a1:=by rw[ha1,IntKind.wrap_i64];omega
 rw[←ha1];obtain⟨w1,hw1⟩:∃w1,w1=w.setCell ⟨b,2,none⟩ (.int .i64 a1):=⟨_,rfl⟩;have hg1:w.grownBy w1 (some b):=by rw[hw1];exact Bi (p:=⟨b,2,none⟩) (Ai w b) rfl _
 obtain⟨P1,hP1⟩:∃P1:PrS,P1={P with acts:=P.acts+1}:=⟨_,rfl⟩;have hA1:Cu Bs w1 b P1:=by
  rw[hP1];refine⟨by rw[hw1,ha1,←k.acts];exact hP.blk.put 2 _,BO hP.row hg1 (.blk hP.blk (by decide)),fun s hs=>(hP.sgs s hs).off hg1 (.blk hP.blk (by decide)),BO hP.dec hg1 (.blk hP.blk (by decide))⟩
 have hG1:A9 Bs w1 g (G.setP i b P1):=h.setP k.hi hg1 hA1;have hK1:Ep i b mem a1 par M pay ks c (G.setP i b P1) P1:=by
  rw[hP1];exact⟨List.getElem?_set_self (AG.1 k.hi).1,k.mem,by rw[ha1,←k.acts],k.pay,k.par,k.M,k.ks,k.sg,k.len,k.val,k.lf⟩
 have hb01:Below Bs w w1:=(AC _ _).grown hg1 hBs (fun j hj=>by injection hj with hj;subst hj;exact hbB);have hBs1:Bs≤w1.heap.size:=AF hBs hg1.size;obtain⟨own,hown⟩:∃o,o=Fm par mem P.D:=⟨_,rfl⟩;have hD1:P1.D=P.D:=by rw[hP1]
 have hl1:P1.leaf=P.leaf:=by rw[hP1]
 have HPr0:Hid (Calls Tryz.prog 73 #[Am g,Am b] w1 fun e w2=>∃v,e= .returned (.tuple #[v,.bool own])∧Below w1.heap.size w1 w2):=by
  unfold Hid;rw[hown,←hD1];exact(N3 hG1 hK1 hc).mono fun e w2 ⟨v,h1,_,h3⟩=>⟨v,h1,h3⟩
 rw[←hown]at hA hB hC;obtain⟨G1,hGe⟩:∃G1,G1=G.setP i b P1:=⟨_,rfl⟩;have hGd:G.actd i b P=G1:=by rw[hGe,hP1]
 rw[hGd]at hA hB hC;rw[←hGe]at hG1 hK1;rw[←hl1]at hC;have HA:=AA hA;have HB:=AA hB;have HC:=AA hC;have HS:=AA hS;have HG1:=AA hG1;have HK1:=AA hK1;have HW1:=AA hw1;have HKy:=AA hk;have HPr:Hid (∀V G' P',A9 Bs V g G'→Ep i b mem a1 par M pay ks c G' P'→Calls Tryz.prog 73 #[Am g,Am b] V (IR P'.D par mem V)):=fun V G' P' h k=>N3 h k hc
 have HVt:Hid (∀V G' P',A9 Bs V g G'→Ep i b mem a1 par M pay ks c G' P'→Calls Tryz.prog 44 #[Am b] V (EK V P'.D)):=fun V G' P' h k=>SG h k hc
 have HSg:Hid (∀V G' P' v,A9 Bs V g G'→Ep i b mem a1 par M pay ks c G' P'→Bs≤V.heap.size→v.ok→Calls Tryz.prog 74 #[Am g,Am b,v.val] V (SgA Bs g i v G' P' V)):=fun V G' P' v h k hB hv=>SH h k hc hB hk v hv
 clear h k hk hA hB hC hS hP hg1 hA1 hG1 hK1 hw1 hP1 hD1 hl1 hGe hown ha1 hGd;go_enter Tryz.func39,Tryz.ntmps39;go_upto_region 1 with fail
 simp only[←HW1.out];go_upto_if 24 with(go_at_call 73;refine HPr0.out.mono ?_;rintro en w2 ⟨v2,rfl,hb2⟩)
 have hb02:Below Bs w w2:=hb01.trans (hb2.mono hBs1);have hBs2:Bs≤w2.heap.size:=AF hBs1 hb2.size;have HG2:=AA (HG1.out.below hb2);clear HPr0;go_cut[4] (fun _ wx=>∃G' P',A9 Bs wx g G'∧Ep i b mem a1 par M pay ks c G' P'∧Inv G'∧Below Bs w wx)
 case first=>
  cases own with
  |true=>
   go_wp2;go_meet;exact⟨G1,P1,HG2.out,HK1.out,(by first|exact HA.out rfl|exact HA.out trivial),hb02⟩
  |false=>
   have HX:Hid (∀V,Below w2.heap.size w2 V→V.cell? ⟨g,0,none⟩=some (.int .i64 M)∧AK V g 2 8=some par.cells∧V.cell? ⟨b,1,none⟩=some (.int .i64 (mem:Int))∧V.cell? ⟨b,2,none⟩=some (.int .i64 a1)∧AK V b 4 8=some pay.cells):=fun V hV=>Fi (HG2.out.below hV) HK1.out
   have HSg2:Hid (∀V,Below w2.heap.size w2 V→Calls Tryz.prog 74 #[Am g,Am b,(Lw par mem pay).val] V (SgA Bs g i (Lw par mem pay) G1 P1 V)):=fun V hV=>HSg.out V G1 P1 _ (HG2.out.below hV) HK1.out (AF hBs2 hV.size) ⟨by simp,by simp⟩
   go_upto_region 3 with fail
   refine rgD (fun V=>V.cell? ⟨g,0,none⟩=some (.int .i64 M)∧AK V g 2 8=some par.cells∧V.cell? ⟨b,1,none⟩=some (.int .i64 (mem:Int))∧V.cell? ⟨b,2,none⟩=some (.int .i64 a1)∧AK V b 4 8=some pay.cells) (HX.out _ (AC w2.heap.size w2).drew) fun hHeld=>?_
   refine tkD 25 0 ?_;go_frame;refine tkD 26 1 ?_;go_frame;refine tkD 27 2 ?_;go_frame;refine tkD 28 3 ?_;go_frame;refine tkD 29 4 ?_;go_frame;refine tkD 30 5 ?_;go_frame;refine tkD 31 6 ?_;go_frame;refine tkD 32 7 ?_;go_frame;refine tkD 33 8 ?_;go_frame;refine tkD 34 9 ?_;go_frame;refine tkD 35 10 ?_;go_frame;refine tkD 36 11 ?_;go_frame;refine tkD 37 12 ?_;go_frame;refine tkD 38 13 ?_;go_frame;refine tkD 39 14 ?_;go_frame;refine tkD 40 15 ?_;go_frame;refine tkD 41 16 ?_;go_frame;refine tkD 42 17 ?_;go_frame;refine tkD 43 18 ?_;go_frame;refine rd1 19 fun K hK=>?_
   go_simp;refine(HSg2.out _ (AC w2.heap.size w2).drew).mono ?_;rintro en w4 hs4;have HX4:=AA (hs4.cells HK1.out);obtain⟨ok,rfl,hb4,hs4⟩:=hs4;go_wp2_with fail
   refine hK.out _ _ (HX4.out) (fun hHeld=>?_);clear hK K;try go_frame
   refine dnD ?_;have hb04:Below Bs w w4:=(hb02.trans (AC _ _).drew).trans hb4;have HS4:=AA hs4;clear hs4 hb4;go_wp2;go_meet;rcases HS4.out with⟨_,h1,h2⟩|⟨_,G',h1,h2⟩
   ·exact⟨G1,P1,h2,HK1.out,(by first|exact HC.out rfl h1|exact HC.out trivial h1),hb04⟩
   ·obtain⟨P',k',_⟩:=h1.actK HK1.out;exact⟨G',P',h2,k',(by first|exact HB.out rfl G' h1|exact HB.out trivial G' h1),hb04⟩
 case rest=>
  obtain⟨G3,P3,hG3,hK3,hI3,hb03⟩:=hcut;generalize wc=w3 at*;have HG3:=AA hG3;have HK3:=AA hK3;have HI3:=AA hI3;clear hG3 hK3 hI3 HG2 hb02 hBs2 HA HB HC HG1 HK1 y2 y2f;go_wp2
  go_loopw [6] (fun _ wr=>∃G' P',A9 Bs wr g G'∧Ep i b mem a1 par M pay ks c G' P'∧Inv G'∧Below Bs w wr) (fun _ wr=>1024-JO b wr)
  case atStart=>exact⟨G3,P3,HG3.out,HK3.out,HI3.out,hb03⟩
  case round=>
   obtain⟨G4,P4,hG4,hK4,hI4,hb04⟩:=hrel;have hBs4:Bs≤wr.heap.size:=AF hBs hb04.size;obtain⟨D,hD⟩:∃D,D=P4.D:=⟨_,rfl⟩;have hD6:D.length≤1000000:=by
    rw[hD];have h1:=hK4.len' hc;have h2:=P4.D_len;omega
   have hN6:(Dj D).length≤1000000:=AF (Qu D) hD6;have HDv:Hid (∀v∈D,Ae v):=by rw[hD];exact PrS.D_valid hK4.val
   have hlf:JO b wr=P4.leaf:=(hG4.prs _ _ hK4.hi).1.usedAt;have HPr4:Hid (Calls Tryz.prog 73 #[Am g,Am b] wr (IR D par mem wr)):=by rw[hD];exact HPr.out wr G4 P4 hG4 hK4
   have HVt4:Hid (∀V,Below wr.heap.size wr V→Calls Tryz.prog 44 #[Am b] V (EK V D)):=fun V hV=>by rw[hD];exact HVt.out V G4 P4 (hG4.below hV) hK4
   have HX4:Hid (∀V,Below wr.heap.size wr V→V.cell? ⟨g,0,none⟩=some (.int .i64 M)∧AK V g 2 8=some par.cells∧V.cell? ⟨b,1,none⟩=some (.int .i64 (mem:Int))∧V.cell? ⟨b,2,none⟩=some (.int .i64 a1)∧AK V b 4 8=some pay.cells):=fun V hV=>Fi (hG4.below hV) hK4
   have HDu:Hid (∀o,DP M par (mem:Int) D (Dj D) (decide (2<a1)) o→M1 i G4 o):=fun o ho=>⟨b,P4,hK4.hi,by rw[hK4.M,hK4.par,hK4.mem,hK4.acts,←hD];exact ho⟩
   have HG4:=AA hG4;have HK4:=AA hK4;have HI4:=AA hI4;have HLf:=AA hlf;clear hG4 hK4 hI4 hD hlf HG3 HK3 HI3;go_upto_region 5 with(go_at_call 73;refine HPr4.out.mono ?_;rintro en w5 ⟨v5,rfl,hown5,hb5⟩;obtain⟨A5,c5,rfl,hR5⟩:=BY hown5;have HR5:=AA hR5;clear hown5 hR5)
   obtain⟨nH,hnH⟩:∃n,(Dj D).length=n:=⟨_,rfl⟩;rw[hnH]at hN6 ⊢;obtain⟨wt,hwt⟩:∃wt,wt=decide (2<a1):=⟨_,rfl⟩;have HWt:=AA hwt;have hBs5:Bs≤w5.heap.size:=AF hBs4 hb5.size;have hb05:Below Bs w w5:=hb04.trans (hb5.mono hBs4);have HX5:Hid (∀V,Below w5.heap.size w5 V→V.cell? ⟨g,0,none⟩=some (.int .i64 M)∧AK V g 2 8=some par.cells∧V.cell? ⟨b,1,none⟩=some (.int .i64 (mem:Int))∧V.cell? ⟨b,2,none⟩=some (.int .i64 a1)∧AK V b 4 8=some pay.cells):=fun V hV=>HX4.out V (hb5.trans (hV.mono hb5.size))
   have HVt5:Hid (∀V,Below w5.heap.size w5 V→Calls Tryz.prog 44 #[Am b] V (EK V D)):=fun V hV=>HVt4.out V (hb5.trans (hV.mono hb5.size))
   have HNx:Hid (∀V A c',Below w5.heap.size w5 V→Rd V V.heap.size A (D.flatMap vtc)→Calls Tryz.prog 75 #[.int .i64 M,par.val,.slice A D.length c',.int .i64 (mem:Int),.slice A5 nH c5,.bool (decide (2<a1))] V (Cv (DP M par (mem:Int) D (Dj D) (decide (2<a1))) V)):=fun V A c' hV hR=>
    Ol M par A D.length c' D (mem:Int) A5 nH c5 (Dj D) (decide (2<a1)) V rfl hR hD6 HDv.out (by omega) hnH ((HR5.out.below hV).more hV.size) hN6
   clear hnH HX4 HVt4 HPr4 HR5;go_cut[8,9] (fun pv bv wx=>∃z o,pv= .pointer (some ⟨z,0,none⟩)∧bv= .bool (Option.isSome o)∧Blk wx z 46 (Ex o)∧DP M par (mem:Int) D (Dj D) (decide (2<a1)) o∧Below w5.heap.size w5 wx)
   case first=>
    refine rgD (fun V=>V.cell? ⟨g,0,none⟩=some (.int .i64 M)∧AK V g 2 8=some par.cells∧V.cell? ⟨b,1,none⟩=some (.int .i64 (mem:Int))∧V.cell? ⟨b,2,none⟩=some (.int .i64 a1)∧AK V b 4 8=some pay.cells) (HX5.out _ (AC w5.heap.size w5).drew) fun hHeld=>?_
    refine tkD 52 0 ?_;go_frame;refine tkD 53 1 ?_;go_frame;refine tkD 54 2 ?_;go_frame;refine tkD 55 3 ?_;go_frame;refine tkD 56 4 ?_;go_frame;refine tkD 57 5 ?_;go_frame;refine tkD 58 6 ?_;go_frame;refine tkD 59 7 ?_;go_frame;refine tkD 60 8 ?_;go_frame;refine tkD 61 9 ?_;go_frame;refine tkD 62 10 ?_;go_frame;refine tkD 64 12 ?_;go_frame;refine tkD 65 13 ?_;go_frame;refine tkD 66 14 ?_;go_frame;refine tkD 67 15 ?_;go_frame;refine tkD 68 16 ?_;go_frame;refine tkD 69 17 ?_;go_frame;refine tkD 70 18 ?_;go_frame;refine tkD 71 19 ?_;go_frame;refine tkD 72 20 ?_;go_frame;refine tkD 73 21 ?_;go_frame;refine rd2 11 26 (fun K hK=>?_) fun K hK=>?_
    ·go_simp;refine(HVt5.out _ ((AC w5.heap.size w5).drew)).mono ?_;rintro en w6 ⟨v6,rfl,hb6,hown6⟩;obtain⟨A6,c6,rfl,hR6⟩:=BY hown6;have HR6:=AA hR6;have hb56:Below w5.heap.size w5 w6:=((AC w5.heap.size w5).drew).trans (hb6.mono (Below.size ((AC w5.heap.size w5).drew)));clear hown6 hR6;go_wp2_with fail
     refine hK.out _ _ (HX5.out _ hb56) (fun hHeld=>?_);clear hK K;try go_frame
     refine rd2 22 26 (fun K hK=>?_) fun K hK=>?_
     ·go_simp;refine(HNx.out _ A6 c6 (hb56) (HR6.out)).mono ?_;rintro en w7 ⟨o,rfl,ho,hb7⟩;have hb57:Below w5.heap.size w5 w7:=(hb56).trans (hb7.mono (Below.size (hb56)));have HO:=AA ho;clear ho;go_wp2_with fail
      refine hK.out _ _ (HX5.out _ hb57) (fun hHeld=>?_);clear hK K;try go_frame
      refine tkD 51 23 ?_;go_frame;refine tkD 75 24 ?_;go_frame;refine tkD 76 25 ?_;go_frame;refine rd1 26 fun K hK=>?_
      go_simp;refine hK.out _ _ (HX5.out _ (hb57.alloc hb57.size _)) (fun hHeld=>?_);clear hK K;try go_frame
      refine rd1 27 fun K hK=>?_
      rw[if_pos (by rfl)];refine BQ 46 (.tmp 8) (.tmp 75) (by rfl) w7.heap.size (Ex o) (by rfl) (by rfl) 46 Ah (Blk.new w7 _ _) (by rw[Dr];rfl) (by rw[Dr];exact Ao) (fun u hu=>JP hu) (by rfl) ?_;intro w8 hR8 hg8 hsz8;refine hK.out _ _ (HX5.out _ (Below.grown (hb57.alloc hb57.size _) hg8 (Below.size (hb57.alloc hb57.size _)) (fun j hj=>by injection hj with hj;subst hj;exact hb57.size))) (fun hHeld=>?_);clear hK K;try go_frame
      refine tkD 9 28 ?_;go_frame;refine dnD ?_;go_wp2_with fail
      go_meet;exact⟨w7.heap.size,o,rfl,rfl,hR8,HO.out,Below.grown (hb57.alloc hb57.size _) hg8 (Below.size (hb57.alloc hb57.size _)) (fun j hj=>by injection hj with hj;subst hj;exact hb57.size)⟩
     ·go_simp;refine hK.out _ _ (HX5.out _ (hb56.alloc hb56.size _)) (fun hHeld=>?_);clear hK K;try go_frame
      refine rd1 22 fun K hK=>?_
      go_simp;refine(HNx.out _ A6 c6 (hb56.alloc hb56.size _) ((HR6.out.below ((AC _ w6).alloc (AB _) _)).more (by simp))).mono ?_;rintro en w7 ⟨o,rfl,ho,hb7⟩;have hb57:Below w5.heap.size w5 w7:=(hb56.alloc hb56.size _).trans (hb7.mono (Below.size (hb56.alloc hb56.size _)));have HO:=AA ho;clear ho;have hZ7:Blk w7 w6.heap.size 46 Ah:=Blk.below (Blk.new w6 _ _) hb7 (by simp);go_wp2_with fail
      refine hK.out _ _ (HX5.out _ hb57) (fun hHeld=>?_);clear hK K;try go_frame
      refine tkD 51 23 ?_;go_frame;refine tkD 75 24 ?_;go_frame;refine tkD 76 25 ?_;go_frame;refine rd1 27 fun K hK=>?_
      rw[if_pos (by rfl)];refine BQ 46 (.tmp 8) (.tmp 75) (by rfl) w6.heap.size (Ex o) (by rfl) (by rfl) 46 Ah (hZ7) (by rw[Dr];rfl) (by rw[Dr];exact Ao) (fun u hu=>JP hu) (by rfl) ?_;intro w8 hR8 hg8 hsz8;refine hK.out _ _ (HX5.out _ (Below.grown (hb57) hg8 (Below.size (hb57)) (fun j hj=>by injection hj with hj;subst hj;exact hb56.size))) (fun hHeld=>?_);clear hK K;try go_frame
      refine tkD 9 28 ?_;go_frame;refine dnD ?_;go_wp2_with fail
      go_meet;exact⟨w6.heap.size,o,rfl,rfl,hR8,HO.out,Below.grown (hb57) hg8 (Below.size (hb57)) (fun j hj=>by injection hj with hj;subst hj;exact hb56.size)⟩
    ·go_simp;refine hK.out _ _ (HX5.out _ (((AC w5.heap.size w5).alloc (AB _) _).drew)) (fun hHeld=>?_);clear hK K;try go_frame
     refine rd1 11 fun K hK=>?_
     go_simp;refine(HVt5.out _ (((AC w5.heap.size w5).alloc (AB _) _).drew)).mono ?_;rintro en w6 ⟨v6,rfl,hb6,hown6⟩;obtain⟨A6,c6,rfl,hR6⟩:=BY hown6;have HR6:=AA hR6;have hb56:Below w5.heap.size w5 w6:=(((AC w5.heap.size w5).alloc (AB _) _).drew).trans (hb6.mono (Below.size (((AC w5.heap.size w5).alloc (AB _) _).drew)));clear hown6 hR6;have hZ6:Blk w6 w5.heap.size 46 Ah:=Blk.below (w:=(w5.alloc (.cells Ah 46)).drew) (Blk.new w5 _ _) hb6 (by simp);go_wp2_with fail
     refine hK.out _ _ (HX5.out _ hb56) (fun hHeld=>?_);clear hK K;try go_frame
     refine rd1 22 fun K hK=>?_
     go_simp;refine(HNx.out _ A6 c6 (hb56) (HR6.out)).mono ?_;rintro en w7 ⟨o,rfl,ho,hb7⟩;have hb57:Below w5.heap.size w5 w7:=(hb56).trans (hb7.mono (Below.size (hb56)));have HO:=AA ho;clear ho;have hZ7:=hZ6.below hb7 hZ6.lt;go_wp2_with fail
     refine hK.out _ _ (HX5.out _ hb57) (fun hHeld=>?_);clear hK K;try go_frame
     refine tkD 51 23 ?_;go_frame;refine tkD 75 24 ?_;go_frame;refine tkD 76 25 ?_;go_frame;refine rd1 27 fun K hK=>?_
     rw[if_pos (by rfl)];refine BQ 46 (.tmp 8) (.tmp 75) (by rfl) w5.heap.size (Ex o) (by rfl) (by rfl) 46 Ah (hZ7) (by rw[Dr];rfl) (by rw[Dr];exact Ao) (fun u hu=>JP hu) (by rfl) ?_;intro w8 hR8 hg8 hsz8;refine hK.out _ _ (HX5.out _ (Below.grown (hb57) hg8 (Below.size (hb57)) (fun j hj=>by injection hj with hj;subst hj;exact AB _))) (fun hHeld=>?_);clear hK K;try go_frame
     refine tkD 9 28 ?_;go_frame;refine dnD ?_;go_wp2_with fail
     go_meet;exact⟨w5.heap.size,o,rfl,rfl,hR8,HO.out,Below.grown (hb57) hg8 (Below.size (hb57)) (fun j hj=>by injection hj with hj;subst hj;exact AB _)⟩
   case rest=>
    obtain⟨z,o,rfl,rfl,hZ,ho,hb6⟩:=hcut;generalize wc=w6 at*;have hb56:=hb5.trans (hb6.mono hb5.size);have hb06:Below Bs w w6:=hb05.trans (hb6.mono hBs5);have hBs6:Bs≤w6.heap.size:=AF hBs5 hb6.size;have HG6:=AA (HG4.out.below hb56);have HDue:=AA (HDu.out o ho);have HSo:=AA ho;clear ho hb6 hb5 HNx HVt5 HX5 HG4;cases o with
    |none=>
     clear hZ;go_wp2;go_end0;exact⟨rfl,hb06,G4,P4,HG6.out,HK4.out,HI4.out,.inl HDue.out⟩
    |some v=>
     simp only[Ex,Option.isSome_some]at hZ ⊢;have x1:AK w6 z 0 22=some v.cells:=hZ.row 22 rfl;have hvv:Ae v:=by
      obtain⟨s,_,hd⟩:=HSo.out.due HDv.out;exact hd.1
     have HSg6:=AA (HSg.out w6 G4 P4 v HG6.out HK4.out hBs6 (UD hvv));have HVv:=AA hvv;clear hZ hvv;go_upto_if 85 with(go_at_call 74;refine HSg6.out.mono ?_;rintro en w7 ⟨ok,rfl,hb7,hs7⟩;have HS7:=AA hs7;clear hs7)
     have hb07:=hb06.trans hb7;cases ok with
     |false=>
      go_wp2;go_end0;rcases HS7.out with⟨_,h1,h2⟩|⟨h,_⟩
      ·refine⟨rfl,hb07,G4,P4,h2,HK4.out,HI4.out,.inr ?_⟩;have h3:=HK4.out.lf;by_cases h4:P4.leaf<1024
       ·exact absurd ⟨HVv.out,h4⟩ h1
       ·omega
      ·cases h
     |true=>
      go_wp2;go_roundw
      case rel=>
       rcases HS7.out with⟨h,_⟩|⟨_,G',h1,h2⟩
       ·cases h
       ·obtain⟨P',k',_⟩:=h1.actK HK4.out;exact⟨G',P',h2,k',HS.out G4 G' v HI4.out HDue.out h1,hb07⟩
      case measure=>
       rcases HS7.out with⟨h,_⟩|⟨_,G',h1,h2⟩
       ·cases h
       ·obtain⟨P',k',e1,e2⟩:=h1.actK HK4.out;have e3:JO b w7=P'.leaf:=(h2.prs _ _ k'.hi).1.usedAt;have e4:JO b wr=P4.leaf:=HLf.out;omega
end
section
open Go.RowKit
theorem JQ(M:Int)(n:Nat):(Cj M n).Nodup:=List.Pairwise.sublist List.filter_sublist List.nodup_range
section
variable {Bs g n T:Nat}{T0 L0:Int}{sd:Nm}{w:World}{G:GmS}
theorem TM{p b:Nat}{P:PrS}(h:A9 Bs w g G)(hBs:Bs≤w.heap.size)(hI:PlI n T0 L0 sd T G)(hT:T≤90)(hi:G.ps[p]? =some (b,P)):Calls Tryz.prog 39 #[Am g,Am b] w fun e w'=>e= .returned (.tuple #[])∧Below Bs w w'∧∃G',A9 Bs w' g G'∧PlI n T0 L0 sd (T+1) G':=by
 have hm:=hI.inv.mem p b P hi;have hn:=hI.inv.n1;obtain⟨y,hy⟩:∃y,G.ks[P.mem]? =some y:=⟨_,AE (by rw[hI.inv.kn];exact hm.1)⟩;obtain⟨x,hx⟩:∃x,G.sg[P.mem]? =some x:=⟨_,AE (by rw[hI.inv.sgn];exact hm.1)⟩;have hlf:=hI.inv.leaf p b P hi;have k:Ep p b P.mem P.acts G.par G.M P.pay G.ks 20600 G P:=⟨hi,rfl,rfl,rfl,rfl,rfl,rfl,⟨x,hx,by have:=hI.inv.slen hx;omega⟩,by have:=hI.inv.len hi;omega,fun x hx=>(hI.inv.held p b P hi x hx).1,hlf.1⟩;refine(N4 (PlI n T0 L0 sd (T+1)) h hBs (by omega) k hy (by omega) (by omega) (fun _=>hI.actd hi) (fun hp G' hs=>(hI.actd hi).sgn hs (fun b' P' hi'=>?_)) (fun _ _=>hI.actd hi) (fun G1 G2 v h1 hd hs=>h1.sgn hs (M1.noKey h1 hd))).mono ?_
 ·rw[show(G.actd p b P).ps=G.ps.set p (b,{P with acts:=P.acts+1})from rfl,List.getElem?_set_self (AG.1 hi).1]at hi';injection hi' with hi'
  injection hi' with e1 e2
  subst e2;exact⟨rfl,M6 hp⟩
 ·rintro e w' ⟨h1,h2,G',P',h3,_,h4,_⟩;exact⟨h1,h2,G',h3,h4⟩
def UW(Bs g n T:Nat)(T0 L0:Int)(sd:Nm)(s:Stp)(G:GmS)(w:World)(e:Ending)(w':World):Prop:=
 (∃x:Int,e= .returned (.int .i64 x))∧Below Bs w w'∧(s.kind=2→CR w w')∧∃G',A9 Bs w' g G'∧PlI n T0 L0 sd (T+1) G'∧(s.kind=2→∃G1,GA (Cj s.procs G.ps.length) (Cj s.procs G.ps.length).length G G1∧C4 G1.ps.length G1 G')
theorem Qv(s:Stp)(hv:s.vote.ok)(h:A9 Bs w g G)(hBs:Bs≤w.heap.size)(hI:PlI n T0 L0 sd T G)(hT:T≤90):Calls Tryz.prog 22 #[Am g,s.val] w (UW Bs g n T T0 L0 sd s G w):=by
 have hn:=hI.inv.n1;have hps:=hI.inv.psn;have hn20:G.ps.length≤20:=by omega
 have hcl:=L3 s.procs G.ps.length;have hsm:∀(i b:Nat) (P:PrS),G.ps[i]? =some (b,P)→P.L.length≤25000:=fun i b P hi=>by have:=hI.inv.len hi;omega
 refine(Qo s (fun G'=>PlI n T0 L0 sd (T+1) G'∧(s.kind=2→GA (Cj s.procs G.ps.length) (Cj s.procs G.ps.length).length G G')) h hBs hn20 (fun hk p b P V _ hP hV hB=>?_) (fun hk V A m c hV hB hm hr=>?_) (fun hk V A m c hV hB hm hr=>?_) (fun G' hG'=>hG'.1.good (by omega))).mono ?_
 ·refine(TM hV hB hI hT hP).mono ?_;rintro e w' ⟨a1,a2,G',a3,a4⟩;exact⟨a1,a2,fun h2=>by omega,G',a3,a4,fun h2=>by omega⟩
 ·refine(Qn hV hB _ (JQ _ _) (fun i hi=>(Gh.1 hi).1) (by omega) hsm A m c hm hr).mono ?_;rintro e w' ⟨a1,a2,a3,G',a4,a5⟩;exact⟨a1,a2,fun _=>a3,G',a4,(hI.meet a5).later (by omega),fun _=>by rw[hm];exact a5⟩
 ·refine(R9 hV hB s.vote hv _ (JQ _ _) (fun i hi=>(Gh.1 hi).1) (by omega) hsm (by rw[hI.inv.kn,hI.inv.sgn]) (fun m x hm=>by have:=hI.inv.slen hm;omega) A m c hm hr).mono ?_;rintro e w' ⟨a1,a2,⟨_,a4,a5⟩|⟨a3,a4,G',a5,a6⟩⟩
  ·exact⟨a1,a2,.inl ⟨a4,a5⟩⟩
  ·exact⟨a1,a2,.inr ⟨a4,G',a5,hI.lie a3 a6,fun h2=>by omega⟩⟩
 ·rintro e w' ⟨hb,hK,⟨rfl,G1,G',⟨h1,h2⟩,h3,h4⟩|⟨rfl,h2,_,h4⟩⟩
  ·exact⟨⟨0,rfl⟩,hb,hK,G',h4,h1.dcd h3,fun hk=>⟨G1,h2 hk,h3⟩⟩
  ·exact⟨⟨1,rfl⟩,hb,hK,G,h4,hI.later (by omega),fun hk=>absurd hk h2⟩
end
theorem IT(p:Value):Instr.loadAt 48 p=CN 48 p:=rfl
theorem Kq(b o:Nat)(w:World):(CN 48 (.pointer (some ⟨b,o,none⟩))).run Tryz.prog w=Cw 48 b o w (AK w b o 25):=CW _ 25 b o w _ Tryz.underlying48 rfl (by kernel_rfl)
theorem IU(p:Value):Instr.loadAt 26 p=CN 26 p:=rfl
theorem Kr(b o:Nat)(w:World):(CN 26 (.pointer (some ⟨b,o,none⟩))).run Tryz.prog w=Cw 26 b o w (AK w b o 11):=CW _ 11 b o w _ Tryz.underlying26 rfl (by kernel_rfl)
attribute [local go_sem ↓] Go.wp_at_zero Go.wp_at_succ An Au Av Aw IT IU
attribute [local go_sem] BD BH BI BJ Kq Kr AN AW AQ
abbrev stc(s:Stp):List Value:=s.cells.toList
theorem Ks(l:List Stp):∀s∈l,(stc s).length=25:=fun _ _=>rfl
theorem SJ(s:Stp){u:Value}(h:u∈s.cells.toList):u.oneCell'=true:=by
 simp at h;rcases h with h|h|h|h|h|h|h|h|h|h|h|h|h|h|h|h|h|h|h|h|h|h|h|h|h <;> (subst h;rfl)
theorem Qw:(Tryz.prog.info? 48).map (·.size)=some 25:=by kernel_rfl
theorem Rd.stpRow{w:World}{B' b o:Nat}{l:List Stp}{k:Nat}{s:Stp}(h:Rd w B' (some ⟨b,o,none⟩) (l.flatMap stc))(hk:l[k]? =some s):AK w b (o+k*25) 25=some s.cells:=by
 have hpos:=(AG.1 hk).1;rcases h with h|⟨b',o',e,hb,hc⟩
 ·have:=AX stc 25 l (Ks l);rw[h]at this;simp at this;omega
 ·injection e with e
  injection e with e1 e2
  subst e1;subst e2;refine Bo (fun j u hu=>?_) rfl;have hj:j<25:=by
   have:=(AG.1 hu).1;simpa using this
  rw[Nat.add_assoc];refine hc _ u ?_;rw[CG stc 25 l (Ks l) k j s hk hj,←hu]
theorem JR(n:Nat)(hn:1≤n∧n≤7)(T0 L0:Int)(sd:Nm)(A:Option Addr)(k c:Nat)(l:List Stp)(w:World)(hk:l.length=k)(hk60:k≤60)(hr:Rd w w.heap.size A (l.flatMap stc))(hok:∀s∈l,s.vote.ok):Calls Tryz.prog 14 #[(Cfg.mk (n:Int) T0 L0 sd).val,.slice A k c] w fun e w'=>∃g G Bs,e= .returned (Am g)∧Below w.heap.size w w'∧w.heap.size≤Bs∧Bs≤w'.heap.size∧A9 Bs w' g G∧PlI n T0 L0 sd 60 G:=by
 obtain⟨C,hC⟩:∃C,C=Cfg.mk (n:Int) T0 L0 sd:=⟨_,rfl⟩;obtain⟨w1,hw1⟩:∃w1,w1=w.alloc (.cells C.cells 26):=⟨_,rfl⟩;have hb1:Below w.heap.size w w1:=by rw[hw1];exact(AC _ _).alloc (AB _) _
 obtain⟨q,hq⟩:∃q,q=w.heap.size:=⟨_,rfl⟩;have hQ1:Blk w1 q 26 C.cells:=by rw[hw1,hq];exact Blk.new w _ _
 have x1:AK w1 q 0 11=some C.cells:=hQ1.row 11 rfl;have hr1:Rd w1 w1.heap.size A (l.flatMap stc):=(hr.below hb1).more hb1.size;obtain⟨Bs,hBs⟩:∃Bs,Bs=w1.heap.size:=⟨_,rfl⟩;have hwB:w.heap.size≤Bs:=by rw[hBs];exact hb1.size
 have HNew:Hid (Calls Tryz.prog 27 #[C.val] w1 fun e w'=>∃g G,e= .returned (.tuple #[Am g,.int .i64 0])∧Below Bs w1 w'∧A9 Bs w' g G∧PlI n T0 L0 sd 0 G):=by
  rw[hBs,hC];refine(N0 n hn T0 L0 sd w1).mono ?_;rintro e w' ⟨g,G,a1,a2,a3,a4⟩;exact⟨g,G,a1,a2,a3,PlI.new a4 hn⟩
 have HR:=AA hr1;have HK:=AA hk;have HOk:=AA hok;have HW1:=AA hw1;have HQ:=AA hq;have HBs:=AA hBs;have hB1:Bs≤w1.heap.size:=by omega
 rw[←hC];clear hC hw1 hq hQ1 hr hr1 hk hok hBs;go_enter Tryz.func14,Tryz.ntmps14;go_upto_region 1 with fail
 simp only[←HW1.out,←HQ.out];go_upto_region 2 with(go_at_call 27;refine HNew.out.mono ?_;rintro en w2 ⟨g,G,rfl,hb2,hG2,hI2⟩;have HG2:=AA hG2;have HI2:=AA hI2;clear hG2 hI2)
 have hBs2:Bs≤w2.heap.size:=AF hB1 hb2.size;clear x1 HNew;go_wp2
 go_loopw [18] (fun iv wr=>∃(j:Nat) (G':GmS),iv= .int .i64 (j:Int)∧j≤k∧A9 Bs wr g G'∧PlI n T0 L0 sd j G'∧Below Bs w1 wr) (fun iv _=>k-(intOf iv).toNat)
 case atStart=>exact⟨0,G,rfl,Nat.zero_le _,HG2.out,HI2.out,hb2⟩
 case round=>
  clear HG2 HI2 hb2 hBs2;obtain⟨j,G4,rfl,hjk,hG4,hI4,hb4⟩:=hrel;have hBs4:Bs≤wr.heap.size:=AF hB1 hb4.size;by_cases hj:j<k
  ·have dj:decide ((j:Int)<(k:Int))=true:=by simp;omega
   obtain⟨x,hx⟩:∃x,l[j]? =some x:=⟨_,AE (by rw[HK.out];exact hj)⟩;obtain⟨b0,o,rfl,hb,hcell⟩:=HR.out.cells (by intro e;have:=AX stc 25 l (Ks l);rw[e,HK.out]at this;simp at this;omega);clear hcell hb;have hR4:Rd wr Bs (some ⟨b0,o,none⟩) (l.flatMap stc):=by
    have:=HR.out;rw[←HBs.out]at this;exact this.below hb4
   have x2:AK wr b0 (o+j*25) 25=some x.cells:=hR4.stpRow hx;have hxo:=HOk.out x (AM hx);have HG4:=AA hG4;have HI4:=AA hI4;clear hx hR4 hG4 hI4;go_upto_region 7 with(refine AJ rfl 48 (.tmp 8) (.tmp 21) rfl wr.heap.size x.cells rfl rfl 48 (Stp.mk 0 0 0 ⟨0,0,0,0,0,0,Nm.zero,Nm.zero⟩).cells (Blk.new wr _ _) (by rfl) Qw (fun u hu=>SJ x hu) ?_;intro w5 hB5 hg5 hsz5)
   have hb45:Below wr.heap.size wr w5:=((AC _ wr).alloc (AB _) _).grown hg5 (by simp) (fun k hk=>by injection hk with hk;subst hk;exact AB _);obtain⟨z,hz⟩:∃z,z=wr.heap.size:=⟨_,rfl⟩;rw[←hz]at hB5 ⊢;have x3:AK w5 z 0 25=some x.cells:=hB5.row 25 rfl;have HDo:=AA (Qv x hxo (HG4.out.below hb45) (AF hBs4 hb45.size) HI4.out (by omega));clear hB5 hg5 hsz5 x2 hz;try go_frame
   go_wp2_with (go_at_call 22;refine HDo.out.mono ?_;rintro en w6 ⟨⟨ev,rfl⟩,hb6,_,G6,hG6,hI6,_⟩;have HG6:=AA hG6;have HI6:=AA hI6;clear hG6 hI6)
   go_roundw
   case rel=>exact⟨j+1,G6,by go_num,by omega,HG6.out,HI6.out,(hb4.trans (hb45.mono hBs4)).trans hb6⟩
   case measure=>simp[intOf];omega
  ·have dj:decide ((j:Int)<(k:Int))=false:=by simp;omega
   have HG5:=AA hG4;have HI5:=AA hI4;clear hG4 hI4;go_wp2;go_ret;exact⟨g,G4,Bs,rfl,hb1.trans (hb4.mono hwB),hwB,hBs4,HG5.out,HI5.out.later (by omega)⟩
theorem TN(a b:Sg):a.vs=b.vs↔a.vote=b.vote∧a.sig=b.sig:=by simp[Prod.ext_iff]
end
section
open Go.RowKit
attribute [local go_sem ↓] Go.wp_at_zero Go.wp_at_succ An Au Av Aw
attribute [local go_sem] BD BH BI BJ AN AW AQ
def N5(n:Nat)(w:World)(iv:Value)(wr:World):Prop:=∃i:Nat,iv= .int .i64 (i:Int)∧i≤n∧Below w.heap.size w wr
theorem SK{E F:List Sg}(h:E.map Sg.vs=F.map Sg.vs){i:Nat}{e g:Sg}(he:E[i]? =some e)(hg:F[i]? =some g):e.vs=g.vs:=by
 have:=congrArg (fun l=>l[i]?) h;simp only[AU,he,hg,Option.map_some,Option.some.injEq]at this;exact this
end
end Go.Proofs.YtadllffeoibelaaGreat
