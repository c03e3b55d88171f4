/-
  Parts of the proof. No condition.
-/
import Derived.Test.YtadllffeoibelaaGreatS24
open Go.Proofs.Tryz
namespace Go.Proofs.YtadllffeoibelaaGreat
set_option maxRecDepth 100000
set_option maxHeartbeats 32000000
set_option linter.all false
section
open Go.RowKit
attribute [local go_sem ↓] Go.wp_at_zero Go.wp_at_succ Aj Ao Ap Aq
attribute [local go_sem] Ax BB BC BD AK AR AN
def Ko(b:Nat)(w:World):Nat:=match w.cell? ⟨b,3,none⟩with
 |some (.int _ x)=>x.toNat
 |_=>0
theorem DL.usedAt{Bs b:Nat}{w:World}{P:PrS}(h:DL Bs w b P):Ko b w=P.leaf:=by
 unfold Proofs.YtadllffeoibelaaGreat.Ko;rw[show w.cell? ⟨b,3,none⟩=some (.int .i64 (P.leaf:Int))from h.blk.cell 3];simp
theorem ER(o:Option Vt):(GB o).size=22:=by cases o <;> rfl
theorem Kq{o:Option Vt}{u:Value}(h:u∈(GB o).toList):u.oneCell'=true:=by
 cases o with
 |none=>exact CR h
 |some v=>exact BO v h
theorem PrS.D_len(P:PrS):P.D.length<=P.L.length:=by
 show((B8 _).map _).length<=_;rw[AX];have:=D9 (P.L.map Sg.vs);rwa[AX]at this
theorem Tt(D:List Vt):(EK D).length<=D.length:=by
 unfold EK;rw[AX];exact List.length_filter_le _ _
section
variable {Bs g i b mem c:Nat}{a1:Int}{par pay:Nm}{M:Int}{ks:List KyS}{V:World}{G:GmS}{P:PrS}
theorem Gk(h:A9 Bs V g G)(k:Fn i b mem a1 par M pay ks c G P):V.cell? ⟨g,0,none⟩=some (.int .i64 M)/\AJ V g 2 8=some par.cells/\V.cell? ⟨b,1,none⟩=some (.int .i64 (mem:Int))/\V.cell? ⟨b,2,none⟩=some (.int .i64 a1)/\AJ V b 4 8=some pay.cells:=by
 have hP:=(h.prs _ _ k.hi).1;refine⟨?_,?_,?_,?_,?_⟩
 ·rw[<-k.M];exact h.blk.cell 0
 ·rw[<-k.par];exact h.row_par
 ·rw[<-k.mem];exact hP.blk.cell 1
 ·rw[<-k.acts];exact hP.blk.cell 2
 ·rw[<-k.pay];exact hP.row_pay
theorem Fn.len'(k:Fn i b mem a1 par M pay ks c G P)(hc:c<=900000):P.L.length<=999000:=by
 have:=k.len;have:=k.lf;omega
theorem Qx(h:A9 Bs V g G)(k:Fn i b mem a1 par M pay ks c G P)(hc:c<=900000):Calls prog 73 #[Az g,Az b] V (KD P.D par mem V):=by
 have:=Mq h k.hi (by have:=k.len' hc;omega);rwa[k.par,k.mem]at this
theorem Vw(h:A9 Bs V g G)(k:Fn i b mem a1 par M pay ks c G P)(hc:c<=900000):Calls prog 44 #[Az b] V (GG V P.D):=
 Hw (h.prs _ _ k.hi).1 (by have:=k.len' hc;omega)
def SgA(Bs g i:Nat)(v:Vt)(G:GmS)(P:PrS)(V:World)(e:Ending)(w':World):Prop:=∃ok:Bool,e= .returned (.bool ok)/\Below Bs V w'/\
 ((ok=false/\¬(Ab v/\P.leaf<1024)/\A9 Bs w' g G)∨(ok=true/\∃G',N5 i v G G'/\A9 Bs w' g G'))
theorem Vx{y:KyS}(h:A9 Bs V g G)(k:Fn i b mem a1 par M pay ks c G P)(hc:c<=900000)(hB:Bs<=V.heap.size)(hk:ks[mem]? =some y)(v:Vt)(hv:v.ok):Calls prog 74 #[Az g,Az b,v.val] V (SgA Bs g i v G P V):=by
 obtain⟨⟨sv0,sl⟩,hs,hsl⟩:=k.sg;have hlf:=k.lf;have hK:G.ks[P.mem]? =some y:=by rw[k.ks,k.mem];exact hk
 have hS:G.sg[P.mem]? =some (sv0,sl):=by rw[k.mem];exact hs
 refine(Ti h hB k.hi hK hS v hv (by have:=k.len' hc;omega) (by have:sl.length<=c+P.leaf:=hsl;omega)).mono ?_;rintro e w' ⟨hb,⟨h1,rfl,h2⟩|⟨h1,rfl,va,vs,L,h2,h3⟩⟩
 ·exact⟨false,rfl,hb,.inl ⟨rfl,h1,h2⟩⟩
 ·exact⟨true,rfl,hb,.inr ⟨rfl,_,⟨b,P,y,sv0,sl,va,vs,L,k.hi,hK,hS,h1,h2,rfl⟩,h3⟩⟩
theorem SgA.cells{v:Vt}{W:World}{e:Ending}(h:SgA Bs g i v G P W e V)(k:Fn i b mem a1 par M pay ks c G P):V.cell? ⟨g,0,none⟩=some (.int .i64 M)/\AJ V g 2 8=some par.cells/\V.cell? ⟨b,1,none⟩=some (.int .i64 (mem:Int))/\V.cell? ⟨b,2,none⟩=some (.int .i64 a1)/\AJ V b 4 8=some pay.cells:=by
 obtain⟨_,_,_,⟨_,_,h⟩|⟨_,G',hs,h⟩⟩:=h
 ·exact Gk h k
 ·obtain⟨P',k',_⟩:=hs.actK k;exact Gk h k'
end
def Vy(Bs g i b mem c:Nat)(a1:Int)(par pay:Nm)(M:Int)(ks:List KyS)(Inv:GmS->Prop)(w:World)(e:Ending)(w':World):Prop:=
 e= .returned (.tuple #[])/\Below Bs w w'/\∃(G':GmS) (P':PrS),A9 Bs w' g G'/\Fn i b mem a1 par M pay ks c G' P'/\Inv G'/\(PX i G' none∨P'.leaf=1024)
theorem Qy{Bs g i b mem c:Nat}{acts:Int}{par pay:Nm}{M:Int}{ks:List KyS}{w:World}{G:GmS}{P:PrS}{y:KyS}(Inv:GmS->Prop)(h:A9 Bs w g G)(hBs:Bs<=w.heap.size)(hc:c<=900000)(k:Fn i b mem acts par M pay ks c G P)(hk:ks[mem]? =some y)(hm:mem<=9)(ha:0<=acts/\acts<1000000)(hA:Gy par mem P.D=true->Inv (G.actd i b P))(hB:Gy par mem P.D=false->∀G',N5 i (N4 par mem pay) (G.actd i b P) G'->Inv G')(hC:Gy par mem P.D=false->¬(Ab (N4 par mem pay)/\P.leaf<1024)->Inv (G.actd i b P))(hS:∀G1 G2 v,Inv G1->PX i G1 (some v)->N5 i v G1 G2->Inv G2):Calls prog 39 #[Az g,Az b] w (Vy Bs g i b mem c (acts+1) par pay M ks Inv w):=by
 have hP:=(h.prs _ _ k.hi).1;have hbB:Bs<=b:=(h.prs _ _ k.hi).2;have y2:w.cell? ⟨b,2,none⟩=some (.int .i64 acts):=by rw[<-k.acts];exact hP.blk.cell 2
 have y2f:w.frozen? ⟨b,2,none⟩=false:=hP.blk.frozen 2;obtain⟨a1,ha1⟩:=ZH (acts+1);have hwa:IntKind.i64.wrap (acts+1)=a1:=by rw[ha1,IntKind.wrap_i64];omega
 rw[<-ha1];obtain⟨w1,hw1⟩:=ZH (w.setCell ⟨b,2,none⟩ (.int .i64 a1));have hg1:w.grownBy w1 (some b):=by rw[hw1];exact Bl (p:=⟨b,2,none⟩) (Am w b) rfl _
 obtain⟨P1,hP1⟩:∃P1:PrS,P1={P with acts:=P.acts+1}:=⟨_,rfl⟩;have hA1:DL Bs w1 b P1:=by
  rw[hP1];refine⟨by rw[hw1,ha1,<-k.acts];exact hP.blk.put 2 _,BR hP.row hg1 (.blk hP.blk (by decide)),fun s hs=>(hP.sgs s hs).off hg1 (.blk hP.blk (by decide)),BR hP.dec hg1 (.blk hP.blk (by decide))⟩
 have hG1:A9 Bs w1 g (G.setP i b P1):=h.setP k.hi hg1 hA1;have hK1:Fn i b mem a1 par M pay ks c (G.setP i b P1) P1:=by
  rw[hP1];exact⟨List.getElem?_set_self (AE.1 k.hi).1,k.mem,by rw[ha1,<-k.acts],k.pay,k.par,k.M,k.ks,k.sg,k.len,k.val,k.lf⟩
 have zQ:Below Bs w w1:=(AC _ _).grown hg1 hBs (ZJ hbB);have yK:Bs<=w1.heap.size:=AG hBs hg1.size;obtain⟨own,xA⟩:=ZH (Gy par mem P.D);have hD1:P1.D=P.D:=by rw[hP1]
 have hl1:P1.leaf=P.leaf:=by rw[hP1]
 have hHf:Hid (Calls prog 73 #[Az g,Az b] w1 fun e w2=>∃v,e= .returned (.tuple #[v,.bool own])/\ZN w1 w2):=by
  unfold Hid;rw[xA,<-hD1];exact(Qx hG1 hK1 hc).mono fun e w2 ⟨v,h1,_,h3⟩=>⟨v,h1,h3⟩
 rw[<-xA]at hA hB hC;obtain⟨G1,hGe⟩:=ZH (G.setP i b P1);have hGd:G.actd i b P=G1:=by rw[hGe,hP1]
 rw[hGd]at hA hB hC;rw[<-hGe]at hG1 hK1;rw[<-hl1]at hC;have HA:=AA hA;have HB:=AA hB;have HC:=AA hC;have HS:=AA hS;have HG1:=AA hG1;have HK1:=AA hK1;have HW1:=AA hw1;have HKy:=AA hk;have HPr:Hid (∀V G' P',A9 Bs V g G'->Fn i b mem a1 par M pay ks c G' P'->Calls prog 73 #[Az g,Az b] V (KD P'.D par mem V)):=fun V G' P' h k=>Qx h k hc
 have HVt:Hid (∀V G' P',A9 Bs V g G'->Fn i b mem a1 par M pay ks c G' P'->Calls prog 44 #[Az b] V (GG V P'.D)):=fun V G' P' h k=>Vw h k hc
 have HSg:Hid (∀V G' P' v,A9 Bs V g G'->Fn i b mem a1 par M pay ks c G' P'->Bs<=V.heap.size->v.ok->Calls prog 74 #[Az g,Az b,v.val] V (SgA Bs g i v G' P' V)):=fun V G' P' v h k hB hv=>Vx h k hc hB hk v hv
 clear h k hk hA hB hC hS hP hg1 hA1 hG1 hK1 hw1 hP1 hD1 hl1 hGe xA ha1 hGd;go_enter func39,ntmps39;go_upto_region 1 with fail
 simp only[<-HW1.out];go_upto_if 24 with(go_at_call 73;refine hHf.out.mono ?_;rintro en w2 ⟨v2,rfl,hb2⟩)
 have zC:Below Bs w w2:=zQ.trans (hb2.mono yK);have zW:Bs<=w2.heap.size:=AG yK hb2.size;have HG2:=AA (HG1.out.below hb2);clear hHf;go_cut[4] (fun _ wx=>∃G' P',A9 Bs wx g G'/\Fn i b mem a1 par M pay ks c G' P'/\Inv G'/\Below Bs w wx)
 case first=>
  cases own with
  |true=>
   go_wp2;go_meet;exact⟨G1,P1,HG2.out,HK1.out,(by first|exact HA.out rfl|exact HA.out trivial),zC⟩
  |false=>
   have HX:Hid (∀V,ZN w2 V->V.cell? ⟨g,0,none⟩=some (.int .i64 M)/\AJ V g 2 8=some par.cells/\V.cell? ⟨b,1,none⟩=some (.int .i64 (mem:Int))/\V.cell? ⟨b,2,none⟩=some (.int .i64 a1)/\AJ V b 4 8=some pay.cells):=fun V hV=>Gk (HG2.out.below hV) HK1.out
   have HSg2:Hid (∀V,ZN w2 V->Calls prog 74 #[Az g,Az b,(N4 par mem pay).val] V (SgA Bs g i (N4 par mem pay) G1 P1 V)):=fun V hV=>HSg.out V G1 P1 _ (HG2.out.below hV) HK1.out (AG zW hV.size) ⟨by simp,by simp⟩
   go_upto_region 3 with fail
   refine rgD (fun V=>V.cell? ⟨g,0,none⟩=some (.int .i64 M)/\AJ V g 2 8=some par.cells/\V.cell? ⟨b,1,none⟩=some (.int .i64 (mem:Int))/\V.cell? ⟨b,2,none⟩=some (.int .i64 a1)/\AJ V b 4 8=some pay.cells) (HX.out _ (AC w2.heap.size w2).drew) fun _=>?_
   iterate 19 (refine tkA ?_;go_frame)
   refine rd1 19 fun K hK=>?_
   go_simp;refine(HSg2.out _ (AC w2.heap.size w2).drew).mono ?_;rintro en w4 hs4;have HX4:=AA (hs4.cells HK1.out);obtain⟨ok,rfl,hb4,hs4⟩:=hs4;go_wp2_with fail
   refine hK.out _ _ (HX4.out) (fun _=>?_);clear hK K;try go_frame
   refine dnD ?_;have zF:Below Bs w w4:=(zC.trans (AC _ _).drew).trans hb4;have HS4:=AA hs4;clear hs4 hb4;go_wp2;go_meet;rcases HS4.out with⟨_,h1,h2⟩|⟨_,G',h1,h2⟩
   ·exact⟨G1,P1,h2,HK1.out,(by first|exact HC.out rfl h1|exact HC.out trivial h1),zF⟩
   ·obtain⟨P',k',_⟩:=h1.actK HK1.out;exact⟨G',P',h2,k',(by first|exact HB.out rfl G' h1|exact HB.out trivial G' h1),zF⟩
 case rest=>
  obtain⟨G3,P3,hG3,hK3,hI3,xj⟩:=hcut;generalize wc=w3 at*;have HG3:=AA hG3;have HK3:=AA hK3;have HI3:=AA hI3;clear hG3 hK3 hI3 HG2 zC zW HA HB HC HG1 HK1 y2 y2f;go_wp2
  go_loopw [6] (fun _ wr=>∃G' P',A9 Bs wr g G'/\Fn i b mem a1 par M pay ks c G' P'/\Inv G'/\Below Bs w wr) (fun _ wr=>1024-Ko b wr)
  case atStart=>exact⟨G3,P3,HG3.out,HK3.out,HI3.out,xj⟩
  case round=>
   obtain⟨G4,P4,hG4,hK4,hI4,zF⟩:=hrel;have ya:Bs<=wr.heap.size:=AG hBs zF.size;obtain⟨D,hD⟩:=ZH P4.D;have hD6:D.length<=1000000:=by
    rw[hD];have h1:=hK4.len' hc;have h2:=P4.D_len;omega
   have hN6:(EK D).length<=1000000:=AG (Tt D) hD6;have HDv:Hid (∀v∈D,Ab v):=by rw[hD];exact PrS.D_valid hK4.val
   have hlf:Ko b wr=P4.leaf:=(hG4.prs _ _ hK4.hi).1.usedAt;have hHg:Hid (Calls prog 73 #[Az g,Az b] wr (KD D par mem wr)):=by rw[hD];exact HPr.out wr G4 P4 hG4 hK4
   have hHh:Hid (∀V,ZN wr V->Calls prog 44 #[Az b] V (GG V D)):=fun V hV=>by rw[hD];exact HVt.out V G4 P4 (hG4.below hV) hK4
   have HX4:Hid (∀V,ZN wr V->V.cell? ⟨g,0,none⟩=some (.int .i64 M)/\AJ V g 2 8=some par.cells/\V.cell? ⟨b,1,none⟩=some (.int .i64 (mem:Int))/\V.cell? ⟨b,2,none⟩=some (.int .i64 a1)/\AJ V b 4 8=some pay.cells):=fun V hV=>Gk (hG4.below hV) hK4
   have HDu:Hid (∀o,Dp M par (mem:Int) D (EK D) (decide (2<a1)) o->PX i G4 o):=fun o ho=>⟨b,P4,hK4.hi,by rw[hK4.M,hK4.par,hK4.mem,hK4.acts,<-hD];exact ho⟩
   have HG4:=AA hG4;have HK4:=AA hK4;have HI4:=AA hI4;have HLf:=AA hlf;clear hG4 hK4 hI4 hD hlf HG3 HK3 HI3;go_upto_region 5 with(go_at_call 73;refine hHg.out.mono ?_;rintro en w5 ⟨v5,rfl,xW,hb5⟩;obtain⟨A5,c5,rfl,hR5⟩:=Bj xW;have HR5:=AA hR5;clear xW hR5)
   obtain⟨nH,hnH⟩:=ZI ((EK D).length);rw[hnH]at hN6 ⊢;obtain⟨wt,hwt⟩:=ZH (decide (2<a1));have HWt:=AA hwt;have hCD:Bs<=w5.heap.size:=AG ya hb5.size;have hCh:Below Bs w w5:=zF.trans (hb5.mono ya);have HX5:Hid (∀V,ZN w5 V->V.cell? ⟨g,0,none⟩=some (.int .i64 M)/\AJ V g 2 8=some par.cells/\V.cell? ⟨b,1,none⟩=some (.int .i64 (mem:Int))/\V.cell? ⟨b,2,none⟩=some (.int .i64 a1)/\AJ V b 4 8=some pay.cells):=fun V hV=>HX4.out V (hb5.trans (hV.mono hb5.size))
   have hFc:Hid (∀V,ZN w5 V->Calls prog 44 #[Az b] V (GG V D)):=fun V hV=>hHh.out V (hb5.trans (hV.mono hb5.size))
   have HNx:Hid (∀V A c',ZN w5 V->Rd V V.heap.size A (D.flatMap vtc)->Calls prog 75 #[.int .i64 M,par.val,.slice A D.length c',.int .i64 (mem:Int),.slice A5 nH c5,.bool (decide (2<a1))] V (DO (Dp M par (mem:Int) D (EK D) (decide (2<a1))) V)):=fun V A c' hV hR=>
    Rl M par A D.length c' D (mem:Int) A5 nH c5 (EK D) (decide (2<a1)) V rfl hR hD6 HDv.out (by omega) hnH ((HR5.out.below hV).more hV.size) hN6
   clear hnH HX4 hHh hHg HR5;go_cut[8,9] (fun pv bv wx=>∃z o,pv= .pointer (some ⟨z,0,none⟩)/\bv= .bool (Option.isSome o)/\Blk wx z 46 (GB o)/\Dp M par (mem:Int) D (EK D) (decide (2<a1)) o/\ZN w5 wx)
   case first=>
    refine rgD (fun V=>V.cell? ⟨g,0,none⟩=some (.int .i64 M)/\AJ V g 2 8=some par.cells/\V.cell? ⟨b,1,none⟩=some (.int .i64 (mem:Int))/\V.cell? ⟨b,2,none⟩=some (.int .i64 a1)/\AJ V b 4 8=some pay.cells) (HX5.out _ (AC w5.heap.size w5).drew) fun _=>?_
    iterate 11 (refine tkA ?_;go_frame)
    refine tkD 64 12 ?_;go_frame;refine tkD 65 13 ?_;go_frame;refine tkD 66 14 ?_;go_frame;refine tkD 67 15 ?_;go_frame;refine tkD 68 16 ?_;go_frame;refine tkD 69 17 ?_;go_frame;refine tkD 70 18 ?_;go_frame;refine tkD 71 19 ?_;go_frame;refine tkD 72 20 ?_;go_frame;refine tkD 73 21 ?_;go_frame;refine rd2 11 26 (fun K hK=>?_) fun K hK=>?_
    ·go_simp;refine(hFc.out _ ((AC w5.heap.size w5).drew)).mono ?_;rintro en w6 ⟨v6,rfl,hb6,xi⟩;obtain⟨A6,c6,rfl,hR6⟩:=Bj xi;have HR6:=AA hR6;have xy:ZN w5 w6:=((AC w5.heap.size w5).drew).trans (hb6.mono (Below.size ((AC w5.heap.size w5).drew)));clear xi hR6;go_wp2_with fail
     refine hK.out _ _ (HX5.out _ xy) (fun _=>?_);clear hK K;try go_frame
     refine rd2 22 26 (fun K hK=>?_) fun K hK=>?_
     ·go_simp;refine(HNx.out _ A6 c6 (xy) (HR6.out)).mono ?_;rintro en w7 ⟨o,rfl,ho,hb7⟩;have yS:ZN w5 w7:=(xy).trans (hb7.mono (Below.size (xy)));have HO:=AA ho;clear ho;go_wp2_with fail
      refine hK.out _ _ (HX5.out _ yS) (fun _=>?_);clear hK K;try go_frame
      refine tkD 51 23 ?_;go_frame;refine tkD 75 24 ?_;go_frame;refine tkD 76 25 ?_;go_frame;refine rd1 26 fun K hK=>?_
      go_simp;refine hK.out _ _ (HX5.out _ (yS.alloc yS.size _)) (fun _=>?_);clear hK K;try go_frame
      refine rd1 27 fun K hK=>?_
      rw[if_pos (by rfl)];refine BN 46 (.tmp 8) (.tmp 75) (by rfl) w7.heap.size (GB o) (by rfl) (by rfl) 46 Ad (Blk.new w7 _ _) (by rw[ER];rfl) (by rw[ER];exact Au) (fun u hu=>Kq hu) (by rfl) ?_;intro w8 hR8 hg8 hCq;refine hK.out _ _ (HX5.out _ (Below.grown (yS.alloc yS.size _) hg8 (Below.size (yS.alloc yS.size _)) (ZJ yS.size))) (fun _=>?_);clear hK K;try go_frame
      refine tkD 9 28 ?_;go_frame;refine dnD ?_;go_wp2_with fail
      go_meet;exact⟨w7.heap.size,o,rfl,rfl,hR8,HO.out,Below.grown (yS.alloc yS.size _) hg8 (Below.size (yS.alloc yS.size _)) (ZJ yS.size)⟩
     ·go_simp;refine hK.out _ _ (HX5.out _ (xy.alloc xy.size _)) (fun _=>?_);clear hK K;try go_frame
      refine rd1 22 fun K hK=>?_
      go_simp;refine(HNx.out _ A6 c6 (xy.alloc xy.size _) ((HR6.out.below ((AC _ w6).alloc (AB _) _)).more (by simp))).mono ?_;rintro en w7 ⟨o,rfl,ho,hb7⟩;have yS:ZN w5 w7:=(xy.alloc xy.size _).trans (hb7.mono (Below.size (xy.alloc xy.size _)));have HO:=AA ho;clear ho;have hZ7:Blk w7 w6.heap.size 46 Ad:=Blk.below (Blk.new w6 _ _) hb7 (by simp);go_wp2_with fail
      refine hK.out _ _ (HX5.out _ yS) (fun _=>?_);clear hK K;try go_frame
      refine tkD 51 23 ?_;go_frame;refine tkD 75 24 ?_;go_frame;refine tkD 76 25 ?_;go_frame;refine rd1 27 fun K hK=>?_
      rw[if_pos (by rfl)];refine BN 46 (.tmp 8) (.tmp 75) (by rfl) w6.heap.size (GB o) (by rfl) (by rfl) 46 Ad (hZ7) (by rw[ER];rfl) (by rw[ER];exact Au) (fun u hu=>Kq hu) (by rfl) ?_;intro w8 hR8 hg8 hCq;refine hK.out _ _ (HX5.out _ (Below.grown (yS) hg8 (Below.size (yS)) (ZJ xy.size))) (fun _=>?_);clear hK K;try go_frame
      refine tkD 9 28 ?_;go_frame;refine dnD ?_;go_wp2_with fail
      go_meet;exact⟨w6.heap.size,o,rfl,rfl,hR8,HO.out,Below.grown (yS) hg8 (Below.size (yS)) (ZJ xy.size)⟩
    ·go_simp;refine hK.out _ _ (HX5.out _ (((AC w5.heap.size w5).alloc (AB _) _).drew)) (fun _=>?_);clear hK K;try go_frame
     refine rd1 11 fun K hK=>?_
     go_simp;refine(hFc.out _ (((AC w5.heap.size w5).alloc (AB _) _).drew)).mono ?_;rintro en w6 ⟨v6,rfl,hb6,xi⟩;obtain⟨A6,c6,rfl,hR6⟩:=Bj xi;have HR6:=AA hR6;have xy:ZN w5 w6:=(((AC w5.heap.size w5).alloc (AB _) _).drew).trans (hb6.mono (Below.size (((AC w5.heap.size w5).alloc (AB _) _).drew)));clear xi hR6;have hZ6:Blk w6 w5.heap.size 46 Ad:=Blk.below (w:=(w5.alloc (.cells Ad 46)).drew) (Blk.new w5 _ _) hb6 (by simp);go_wp2_with fail
     refine hK.out _ _ (HX5.out _ xy) (fun _=>?_);clear hK K;try go_frame
     refine rd1 22 fun K hK=>?_
     go_simp;refine(HNx.out _ A6 c6 (xy) (HR6.out)).mono ?_;rintro en w7 ⟨o,rfl,ho,hb7⟩;have yS:ZN w5 w7:=(xy).trans (hb7.mono (Below.size (xy)));have HO:=AA ho;clear ho;have hZ7:=hZ6.below hb7 hZ6.lt;go_wp2_with fail
     refine hK.out _ _ (HX5.out _ yS) (fun _=>?_);clear hK K;try go_frame
     refine tkD 51 23 ?_;go_frame;refine tkD 75 24 ?_;go_frame;refine tkD 76 25 ?_;go_frame;refine rd1 27 fun K hK=>?_
     rw[if_pos (by rfl)];refine BN 46 (.tmp 8) (.tmp 75) (by rfl) w5.heap.size (GB o) (by rfl) (by rfl) 46 Ad (hZ7) (by rw[ER];rfl) (by rw[ER];exact Au) (fun u hu=>Kq hu) (by rfl) ?_;intro w8 hR8 hg8 hCq;refine hK.out _ _ (HX5.out _ (Below.grown (yS) hg8 (Below.size (yS)) (ZJ (AB _)))) (fun _=>?_);clear hK K;try go_frame
     refine tkD 9 28 ?_;go_frame;refine dnD ?_;go_wp2_with fail
     go_meet;exact⟨w5.heap.size,o,rfl,rfl,hR8,HO.out,Below.grown (yS) hg8 (Below.size (yS)) (ZJ (AB _))⟩
   case rest=>
    obtain⟨z,o,rfl,rfl,hZ,ho,hb6⟩:=hcut;generalize wc=w6 at*;have xy:=hb5.trans (hb6.mono hb5.size);have yw:Below Bs w w6:=hCh.trans (hb6.mono hCD);have hBQ:Bs<=w6.heap.size:=AG hCD hb6.size;have HG6:=AA (HG4.out.below xy);have hHi:=AA (HDu.out o ho);have HSo:=AA ho;clear ho hb6 hb5 HNx hFc HX5 HG4;cases o with
    |none=>
     clear hZ;go_wp2;go_end0;exact⟨rfl,yw,G4,P4,HG6.out,HK4.out,HI4.out,.inl hHi.out⟩
    |some v=>
     simp only[GB,Option.isSome_some]at hZ ⊢;have x1:AJ w6 z 0 22=some v.cells:=hZ.row 22 rfl;have hvv:Ab v:=by
      obtain⟨s,_,hd⟩:=HSo.out.due HDv.out;exact hd.1
     have HSg6:=AA (HSg.out w6 G4 P4 v HG6.out HK4.out hBQ (YY hvv));have HVv:=AA hvv;clear hZ hvv;go_upto_if 85 with(go_at_call 74;refine HSg6.out.mono ?_;rintro en w7 ⟨ok,rfl,hb7,hs7⟩;have HS7:=AA hs7;clear hs7)
     have za:=yw.trans hb7;cases ok with
     |false=>
      go_wp2;go_end0;rcases HS7.out with⟨_,h1,h2⟩|⟨h,_⟩
      ·refine⟨rfl,za,G4,P4,h2,HK4.out,HI4.out,.inr ?_⟩;have h3:=HK4.out.lf;by_cases h4:P4.leaf<1024
       ·exact absurd ⟨HVv.out,h4⟩ h1
       ·omega
      ·cases h
     |true=>
      go_wp2;go_roundw
      case rel=>
       rcases HS7.out with⟨h,_⟩|⟨_,G',h1,h2⟩
       ·cases h
       ·obtain⟨P',k',_⟩:=h1.actK HK4.out;exact⟨G',P',h2,k',HS.out G4 G' v HI4.out hHi.out h1,za⟩
      case measure=>
       rcases HS7.out with⟨h,_⟩|⟨_,G',h1,h2⟩
       ·cases h
       ·obtain⟨P',k',e1,e2⟩:=h1.actK HK4.out;have e3:Ko b w7=P'.leaf:=(h2.prs _ _ k'.hi).1.usedAt;have e4:Ko b wr=P4.leaf:=HLf.out;omega
end
section
open Go.RowKit
theorem Kr(M:Int)(n:Nat):(DM M n).Nodup:=List.Pairwise.sublist List.filter_sublist List.nodup_range
section
variable {Bs g n T:Nat}{T0 L0:Int}{sd:Nm}{w:World}{G:GmS}
theorem Xd{p b:Nat}{P:PrS}(h:A9 Bs w g G)(hBs:Bs<=w.heap.size)(hI:PlI n T0 L0 sd T G)(hT:T<=90)(hi:G.ps[p]? =some (b,P)):Calls prog 39 #[Az g,Az b] w fun e w'=>e= .returned (.tuple #[])/\Below Bs w w'/\∃G',A9 Bs w' g G'/\PlI n T0 L0 sd (T+1) G':=by
 have hm:=hI.inv.mem p b P hi;have hn:=hI.inv.n1;obtain⟨y,hy⟩:∃y,G.ks[P.mem]? =some y:=⟨_,AD (by rw[hI.inv.kn];exact hm.1)⟩;obtain⟨x,hx⟩:∃x,G.sg[P.mem]? =some x:=⟨_,AD (by rw[hI.inv.sgn];exact hm.1)⟩;have hlf:=hI.inv.leaf p b P hi;have k:Fn p b P.mem P.acts G.par G.M P.pay G.ks 20600 G P:=⟨hi,rfl,rfl,rfl,rfl,rfl,rfl,⟨x,hx,by have:=hI.inv.slen hx;omega⟩,by have:=hI.inv.len hi;omega,fun x hx=>(hI.inv.held p b P hi x hx).1,hlf.1⟩;refine(Qy (PlI n T0 L0 sd (T+1)) h hBs (by omega) k hy (by omega) (by omega) (fun _=>hI.actd hi) (fun hp G' hs=>(hI.actd hi).sgn hs (fun b' P' hi'=>?_)) (fun _ _=>hI.actd hi) (fun G1 G2 v h1 hd hs=>h1.sgn hs (PX.noKey h1 hd))).mono ?_
 ·rw[show(G.actd p b P).ps=G.ps.set p (b,{P with acts:=P.acts+1})from rfl,List.getElem?_set_self (AE.1 hi).1]at hi';injection hi' with hi'
  injection hi' with e1 e2
  subst e2;exact⟨rfl,Pd hp⟩
 ·rintro e w' ⟨h1,h2,G',P',h3,_,h4,_⟩;exact⟨h1,h2,G',h3,h4⟩
def Y4(Bs g n T:Nat)(T0 L0:Int)(sd:Nm)(s:Stp)(G:GmS)(w:World)(e:Ending)(w':World):Prop:=
 (∃x:Int,e= .returned (.int .i64 x))/\Below Bs w w'/\(s.kind=2->C8 w w')/\∃G',A9 Bs w' g G'/\PlI n T0 L0 sd (T+1) G'/\(s.kind=2->∃G1,JI (DM s.procs G.ps.length) (DM s.procs G.ps.length).length G G1/\Dd G1.ps.length G1 G')
theorem Yc(s:Stp)(hv:s.vote.ok)(h:A9 Bs w g G)(hBs:Bs<=w.heap.size)(hI:PlI n T0 L0 sd T G)(hT:T<=90):Calls prog 22 #[Az g,s.val] w (Y4 Bs g n T T0 L0 sd s G w):=by
 have hn:=hI.inv.n1;have hps:=hI.inv.psn;have hEI:G.ps.length<=20:=by omega
 have hcl:=N8 s.procs G.ps.length;have hsm:∀(i b:Nat) (P:PrS),G.ps[i]? =some (b,P)->P.L.length<=25000:=fun i b P hi=>by have:=hI.inv.len hi;omega
 refine(Tn s (fun G'=>PlI n T0 L0 sd (T+1) G'/\(s.kind=2->JI (DM s.procs G.ps.length) (DM s.procs G.ps.length).length G G')) h hBs hEI (fun hk p b P V _ hP hV hB=>?_) (fun hk V A m c hV hB hm hr=>?_) (fun hk V A m c hV hB hm hr=>?_) (fun G' hG'=>hG'.1.good (by omega))).mono ?_
 ·refine(Xd hV hB hI hT hP).mono ?_;rintro e w' ⟨a1,a2,G',a3,a4⟩;exact⟨a1,a2,fun h2=>by omega,G',a3,a4,fun h2=>by omega⟩
 ·refine(Tm hV hB _ (Kr _ _) (fun i hi=>(N9.1 hi).1) (by omega) hsm A m c hm hr).mono ?_;rintro e w' ⟨a1,a2,a3,G',a4,a5⟩;exact⟨a1,a2,fun _=>a3,G',a4,(hI.meet a5).later (by omega),fun _=>by rw[hm];exact a5⟩
 ·refine(Vo hV hB s.vote hv _ (Kr _ _) (fun i hi=>(N9.1 hi).1) (by omega) hsm (by rw[hI.inv.kn,hI.inv.sgn]) (fun m x hm=>by have:=hI.inv.slen hm;omega) A m c hm hr).mono ?_;rintro e w' ⟨a1,a2,⟨_,a4,a5⟩|⟨a3,a4,G',a5,a6⟩⟩
  ·exact⟨a1,a2,.inl ⟨a4,a5⟩⟩
  ·exact⟨a1,a2,.inr ⟨a4,G',a5,hI.lie a3 a6,fun h2=>by omega⟩⟩
 ·rintro e w' ⟨hb,hK,⟨rfl,G1,G',⟨h1,h2⟩,h3,h4⟩|⟨rfl,h2,_,h4⟩⟩
  ·exact⟨⟨0,rfl⟩,hb,hK,G',h4,h1.dcd h3,fun hk=>⟨G1,h2 hk,h3⟩⟩
  ·exact⟨⟨1,rfl⟩,hb,hK,G,h4,hI.later (by omega),fun hk=>absurd hk h2⟩
end
theorem Qz(p:Value):Instr.loadAt 48 p=CQ 48 p:=rfl
theorem Tu(b o:Nat)(w:World):(CQ 48 (.pointer (some ⟨b,o,none⟩))).run prog w=DC 48 b o w (AJ w b o 25):=CX _ 25 b o w _ underlying48 rfl (by kernel_rfl)
theorem Q0(p:Value):Instr.loadAt 26 p=CQ 26 p:=rfl
theorem Tv(b o:Nat)(w:World):(CQ 26 (.pointer (some ⟨b,o,none⟩))).run prog w=DC 26 b o w (AJ w b o 11):=CX _ 11 b o w _ underlying26 rfl (by kernel_rfl)
attribute [local go_sem ↓] Go.wp_at_zero Go.wp_at_succ Aj Ao Ap Aq Qz Q0
attribute [local go_sem] Ax BB BC BD Tu Tv AK AR AN
abbrev stc(s:Stp):List Value:=s.cells.toList
theorem Mu(l:List Stp):∀s∈l,(stc s).length=25:=fun _ _=>rfl
theorem Vz(s:Stp){u:Value}(h:u∈s.cells.toList):u.oneCell'=true:=by
 simp at h;rcases h with h|h|h|h|h|h|h|h|h|h|h|h|h|h|h|h|h|h|h|h|h|h|h|h|h <;> (subst h;rfl)
theorem Tw:(prog.info? 48).map (·.size)=some 25:=by kernel_rfl
theorem Rd.stpRow{w:World}{B' b o:Nat}{l:List Stp}{k:Nat}{s:Stp}(h:Rd w B' (some ⟨b,o,none⟩) (l.flatMap stc))(hk:l[k]? =some s):AJ w b (o+k*25) 25=some s.cells:=by
 have yF:=(AE.1 hk).1;rcases h with h|⟨b',o',e,hb,hc⟩
 ·have:=AY stc 25 l (Mu l);rw[h]at this;simp at this;omega
 ·injection e with e
  injection e with e1 e2
  subst e1;subst e2;refine Bq (fun j u hu=>?_) rfl;have hj:j<25:=by
   have:=(AE.1 hu).1;simpa using this
  rw[Nat.add_assoc];refine hc _ u ?_;rw[B4 stc 25 l (Mu l) k j s hk hj,<-hu]
theorem Tx(n:Nat)(hn:1<=n/\n<=7)(T0 L0:Int)(sd:Nm)(A:Option Addr)(k c:Nat)(l:List Stp)(w:World)(hk:l.length=k)(hk60:k<=60)(hr:Rd w w.heap.size A (l.flatMap stc))(hok:∀s∈l,s.vote.ok):Calls prog 14 #[(Cfg.mk (n:Int) T0 L0 sd).val,.slice A k c] w fun e w'=>∃g G Bs,e= .returned (Az g)/\ZN w w'/\w.heap.size<=Bs/\Bs<=w'.heap.size/\A9 Bs w' g G/\PlI n T0 L0 sd 60 G:=by
 obtain⟨C,hC⟩:=ZH (Cfg.mk (n:Int) T0 L0 sd);obtain⟨w1,hw1⟩:=ZH (w.alloc (.cells C.cells 26));have hb1:ZN w w1:=by rw[hw1];exact(AC _ _).alloc (AB _) _
 obtain⟨q,hq⟩:=ZH w.heap.size;have hQ1:Blk w1 q 26 C.cells:=by rw[hw1,hq];exact Blk.new w _ _
 have x1:AJ w1 q 0 11=some C.cells:=hQ1.row 11 rfl;have hr1:Rd w1 w1.heap.size A (l.flatMap stc):=(hr.below hb1).more hb1.size;obtain⟨Bs,hBs⟩:=ZH w1.heap.size;have hwB:w.heap.size<=Bs:=by rw[hBs];exact hb1.size
 have hAg:Hid (Calls prog 27 #[C.val] w1 fun e w'=>∃g G,e= .returned (.tuple #[Az g,.int .i64 0])/\Below Bs w1 w'/\A9 Bs w' g G/\PlI n T0 L0 sd 0 G):=by
  rw[hBs,hC];refine(Qv n hn T0 L0 sd w1).mono ?_;rintro e w' ⟨g,G,a1,a2,a3,a4⟩;exact⟨g,G,a1,a2,a3,PlI.new a4 hn⟩
 have HR:=AA hr1;have HK:=AA hk;have HOk:=AA hok;have HW1:=AA hw1;have HQ:=AA hq;have HBs:=AA hBs;have hB1:Bs<=w1.heap.size:=by omega
 rw[<-hC];clear hC hw1 hq hQ1 hr hr1 hk hok hBs;go_enter func14,ntmps14;go_upto_region 1 with fail
 simp only[<-HW1.out,<-HQ.out];go_upto_region 2 with(go_at_call 27;refine hAg.out.mono ?_;rintro en w2 ⟨g,G,rfl,hb2,hG2,hI2⟩;have HG2:=AA hG2;have HI2:=AA hI2;clear hG2 hI2)
 have zW:Bs<=w2.heap.size:=AG hB1 hb2.size;clear x1 hAg;go_wp2
 go_loopw [18] (fun iv wr=>∃(j:Nat) (G':GmS),iv= .int .i64 (j:Int)/\j<=k/\A9 Bs wr g G'/\PlI n T0 L0 sd j G'/\Below Bs w1 wr) (fun iv _=>k-(intOf iv).toNat)
 case atStart=>exact⟨0,G,rfl,Nat.zero_le _,HG2.out,HI2.out,hb2⟩
 case round=>
  clear HG2 HI2 hb2 zW;obtain⟨j,G4,rfl,hjk,hG4,hI4,hb4⟩:=hrel;have ya:Bs<=wr.heap.size:=AG hB1 hb4.size;by_cases hj:j<k
  ·have dj:=ZK (show j<k by omega)
   obtain⟨x,hx⟩:∃x,l[j]? =some x:=⟨_,AD (by rw[HK.out];exact hj)⟩;obtain⟨b0,o,rfl,hb,xH⟩:=HR.out.cells (by intro e;have:=AY stc 25 l (Mu l);rw[e,HK.out]at this;simp at this;omega);clear xH hb;have hR4:Rd wr Bs (some ⟨b0,o,none⟩) (l.flatMap stc):=by
    have:=HR.out;rw[<-HBs.out]at this;exact this.below hb4
   have x2:AJ wr b0 (o+j*25) 25=some x.cells:=hR4.stpRow hx;have hxo:=HOk.out x (AM hx);have HG4:=AA hG4;have HI4:=AA hI4;clear hx hR4 hG4 hI4;go_upto_region 7 with(refine AI rfl 48 (.tmp 8) (.tmp 21) rfl wr.heap.size x.cells rfl rfl 48 (Stp.mk 0 0 0 ⟨0,0,0,0,0,0,Nm.zero,Nm.zero⟩).cells (Blk.new wr _ _) (by rfl) Tw (fun u hu=>Vz x hu) ?_;intro w5 hB5 hg5 yp)
   have xn:ZN wr w5:=((AC _ wr).alloc (AB _) _).grown hg5 (by simp) (ZJ (AB _));obtain⟨z,hz⟩:=ZH wr.heap.size;rw[<-hz]at hB5 ⊢;have x3:AJ w5 z 0 25=some x.cells:=hB5.row 25 rfl;have HDo:=AA (Yc x hxo (HG4.out.below xn) (AG ya xn.size) HI4.out (by omega));clear hB5 hg5 yp x2 hz;try go_frame
   go_wp2_with (go_at_call 22;refine HDo.out.mono ?_;rintro en w6 ⟨⟨ev,rfl⟩,hb6,_,G6,hG6,hI6,_⟩;have HG6:=AA hG6;have HI6:=AA hI6;clear hG6 hI6)
   go_roundw
   case rel=>exact⟨j+1,G6,by go_num,by omega,HG6.out,HI6.out,(hb4.trans (xn.mono ya)).trans hb6⟩
   case measure=>simp[intOf];omega
  ·have dj:=ZL (show k<=j by omega)
   have HG5:=AA hG4;have HI5:=AA hI4;clear hG4 hI4;go_wp2;go_ret;exact⟨g,G4,Bs,rfl,hb1.trans (hb4.mono hwB),hwB,ya,HG5.out,HI5.out.later (by omega)⟩
end
section
open Go.RowKit
attribute [local go_sem ↓] Go.wp_at_zero Go.wp_at_succ Aj Ao Ap Aq
attribute [local go_sem] Ax BB BC BD AK AR AN
theorem V0(A:Option Addr)(n c:Nat)(w:World):Calls prog 11 #[.slice A n c] w fun e w'=>e= .returned (.bool (decide (n<=60)))/\w'=w:=by
 obtain⟨d,hd⟩:=ZH (decide (n<=60));have d1:decide ((n:Int)<=60)=d:=by rw[hd];exact decide_eq_decide.2 (by omega)
 rw[<-hd];clear hd;go_enter func11,ntmps11;go_wp2;go_ret;exact⟨rfl,rfl⟩
theorem OF(C:Cfg)(w:World):Calls prog 12 #[C.val] w fun e w'=>e= .returned (.bool (decide (1<=C.n/\C.n<=7)))/\ZN w w':=by
 obtain⟨w1,hw1⟩:=ZH (w.alloc (.cells C.cells 26));have hb1:ZN w w1:=by rw[hw1];exact(AC _ _).alloc (AB _) _
 obtain⟨q,hq⟩:=ZH w.heap.size;have hQ1:Blk w1 q 26 C.cells:=by rw[hw1,hq];exact Blk.new w _ _
 obtain⟨n,hn⟩:=ZH C.n;have x1:w1.cell? ⟨q,0,none⟩=some (.int .i64 n):=by rw[hn];exact hQ1.cell 0
 rw[<-hn];have HW1:=AA hw1;have HQ:=AA hq;clear hw1 hq hQ1 hn;obtain⟨a,ha⟩:=ZH (decide (1<=n));obtain⟨b,hb⟩:=ZH (decide (n<=7));have hab:decide (1<=n/\n<=7)=(a&&b):=by rw[ha,hb];exact Bool.decide_and _ _
 rw[hab];replace ha:=ha.symm;replace hb:=hb.symm;clear hab;go_enter func12,ntmps12;go_upto_region 1 with fail
 simp only[<-HW1.out,<-HQ.out];cases a with
 |true=>
  go_wp2;go_ret;exact⟨rfl,hb1⟩
 |false=>
  go_wp2;go_ret;exact⟨rfl,hb1⟩
section
variable {Bs g:Nat}{w:World}{G:GmS}
theorem Pe(h:A9 Bs w g G):Calls prog 16 #[Az g] w fun e w'=>e= .returned (.int .i64 G.hon)/\w'=w:=by
 have y1:w.cell? ⟨g,1,none⟩=some (.int .i64 G.hon):=h.blk.cell 1;clear h;go_enter func16,ntmps16;go_wp2;go_ret;exact⟨rfl,rfl⟩
theorem Ty{i b:Nat}{P:PrS}(h:A9 Bs w g G)(hi:G.ps[i]? =some (b,P))(hsm:P.L.length<=1000000):Calls prog 23 #[Az g,.int .i64 (i:Int)] w (KR w (P.L.map Sg.vs)):=by
 have HM:=AA (Fo h hi);have HP:=(h.prs _ _ hi).1;obtain⟨pb,pc,_,y1,y2,hpn⟩:=h.pcells hi;obtain⟨A,c,hv,hr⟩:=Bj HP.row;have y3:w.cell? ⟨b,0,none⟩=some (.slice A P.L.length c):=by rw[<-hv];exact HP.blk.cell 0
 have HC:=AA (JC A P.L.length c P.L w rfl hr (fun s hs=>(HP.sgs s hs).ok) hsm);obtain⟨m,hm⟩:=ZH P.L.length;obtain⟨n,hn⟩:=ZH G.ps.length;rw[<-hn]at y1 hpn;rw[<-hm]at y3 HC;have d1:decide ((P.mem:Int)<0)=false:=by simp
 clear h hi hn hr hv HP hm hsm;go_enter func23,ntmps23;go_wp2_with (first
  |(go_at_call 20;refine HM.out.mono ?_;rintro en w2 ⟨rfl,hw2⟩;replace hw2:=hw2.symm;subst hw2)
  |(go_at_call 46;refine HC.out.mono ?_;rintro en w3 ⟨L,v,rfl,h1,h2,h3,h4⟩;have H3:=AA (And.intro h2 (And.intro h3 h4));clear h2 h3 h4)
  |fail)
 go_ret;exact⟨L,v,rfl,h1,H3.out⟩
end
end
section
open Go.RowKit
attribute [local go_sem ↓] Go.wp_at_zero Go.wp_at_succ Aj
attribute [local go_sem] Ax AK AR AN
section
variable {D D':Nat->Prop}{s:Nm}{h m:Nat}{w w':World}
theorem B6.lt(hk:B6 D s h m w)(hD:∀g,g<w.heap.size->D g->D' g):B6 D' s h m w:=by
 obtain⟨h1,h2,tl,h3,h4,h5⟩:=hk;refine⟨h1,h2,tl,h3,h4,fun a g ha=>hD g ?_ (h5 a g ha)⟩;obtain⟨_,_,g',_,e,hN⟩:=h4 a _ ha;have:g=g':=by simpa[Eo]using e
 rw[this];exact hN.lt
theorem B6.turn{o:Option Nat}(hk:B6 D s h m w)(hg:w.grownBy w' o)(h0:o≠some h)(hm:o≠some m)(hD:∀g,D g->o≠some g):B6 D s h m w':=by
 obtain⟨h1,h2,tl,h3,h4,h5⟩:=hk;refine⟨h1.kept hg (fun e=>h0 e.symm),h2,tl,h3.kept hg (fun e=>hm e.symm),fun a v ha=>?_,h5⟩;obtain⟨l,n,g,e1,e2,e3⟩:=h4 a v ha;exact⟨l,n,g,e1,e2,e3.kept hg (fun e=>hD g (h5 a g (by rw[ha,e2])) e.symm)⟩
theorem B6.small{k t:Nat}{cs:Array Value}(hk:B6 D s h m w)(hB:Blk w k t cs)(hs:cs.size<256)(ht2:t≠152)(hg:w.grownBy w' (some k)):B6 D s h m w':=by
 obtain⟨h1,h2,tl,h3,h4,h5⟩:=hk;have hm:m≠k:=by
  rintro rfl;obtain⟨es,c,h5,_⟩:=h3;unfold Blk at hB;rw[hB]at h5;cases h5
 refine⟨h1.kept hg (fun e=>?_),h2,tl,h3.kept hg (by simpa using hm),fun a b hab=>?_,h5⟩
 ·injection e with e
  subst e;exact ht2 (CW hB h1)
 ·obtain⟨l,n,g,e1,e2,e3⟩:=h4 a b hab;refine⟨l,n,g,e1,e2,e3.kept hg (fun e=>?_)⟩;injection e with e
  subst e;obtain⟨cur,hC,hl,_⟩:=e3;unfold Blk at hB hC;rw[hB]at hC;injection hC with hC
  injection hC with hC
  rw[hC]at hs;simp at hs;omega
end
def Tz(D:Nat->Prop)(s:Nm)(h m:Nat)(w:World)(r:Nm)(e:Ending)(w':World):Prop:=e= .returned r.val/\B6 D s h m w'/\w.grownBy w' (some m)
theorem R0(D:Nat->Prop)(s:Nm)(h m:Nat)(w:World)(hk:B6 D s h m w)(hDn:∀g,w.heap.size<=g->D g):Calls prog 58 #[.pointer (some ⟨h,0,none⟩)] w (Tz D s h m w (Lu s)):=by
 obtain⟨W,hW⟩:=ZH (w.alloc (Obj.cells At 24));have hbW:ZN w W:=by rw[hW];exact(AC _ _).alloc (AB _) _
 have hkW:=hk.below hbW;have hR:Blk W w.heap.size 24 At:=by rw[hW];exact Blk.new w _ _
 have c8:W.cell? ⟨h,8,none⟩=some (I 2):=hkW.1.cell 8;have hED:=AA (JX s h m W hkW.1);have HT:=AA (MB D s h m 2 0 W hkW (hDn _ hbW.size) (by omega) (by omega));have hml:m<w.heap.size:=by obtain⟨_,_,tl,hM,_⟩:=hk.key;exact hM.lt
 have HRt:Hid (∀V g,BK V g 32 (CZ s 2 0)->Calls prog 91 #[Eo g] V (BM V (Lu s))):=fun V g hN=>EX 5 (CZ s 2 0) _ 32 32 V (Gu s 2 0) rfl (by omega) (by omega) (by unfold maxLen;omega) hN.rd
 obtain⟨r,hr⟩:=ZH (Lu s);rw[<-hr]at HRt ⊢;have hne:¬w.heap.size=m:=by omega
 clear hr hkW;go_enter func58,ntmps58;go_upto_region 1 with fail
 rw[<-hW];clear hW;go_wp2_with (first
  |(go_at_call 90;refine hED.out.mono ?_;rintro en w2 ⟨rfl,hw2⟩;subst hw2)
  |(go_at_call 92;refine HT.out.mono ?_;rintro en w3 ⟨g,rfl,hN3,hk3,hg3⟩;have hR3:=hR.kept hg3 (by simpa using hne))
  |(go_at_call 91;refine(HRt.out _ _ hN3).mono ?_;rintro en w4 ⟨rfl,hb4⟩;have hR4:=hR3.below hb4 hR3.lt;have hk4:=hk3.below hb4)
  |(refine AI rfl 24 (.tmp 2) (.tmp 13) rfl w.heap.size _ rfl rfl 24 _ hR4 rfl Ag (fun u hu=>F6 r hu) ?_))
 intro w5 hR5 hg5 hs5;go_wp2;refine bodyPost_ret (results_cell_row (g:=w.heap.size) rfl _ _ _ _ _ _ rfl hR5 underlying24 rfl Ag) rfl ⟨rfl,?_,?_⟩
 ·exact hk4.small hR4 (by decide) (by decide) hg5
 ·exact L9 ((FQ hbW).trans (hg3.trans (FQ hb4))) hg5 (AB _)
end
section
open Go.RowKit
attribute [local go_sem ↓] Go.wp_at_zero Go.wp_at_succ Aj Ao Ap Aq
attribute [local go_sem] Ax BB BC BD AK AR AN
def Ey(w w':World):Prop:=∀(b t:Nat) (cs:Array Value),Blk w b t cs->Blk w' b t cs
theorem Ey.refl(w:World):Ey w w:=fun _ _ _ h=>h
theorem Ey.below{w w1 w2:World}(h:Ey w w1)(hb:ZN w1 w2):Ey w w2:=fun b t cs hB=>(h b t cs hB).below hb (h b t cs hB).lt
theorem Ey.off{w w1 w2:World}{k:Nat}(h:Ey w w1)(hg:w1.grownBy w2 (some k))(hk:∀t,Off w1 k t):Ey w w2:=fun b t cs hB=>(h b t cs hB).off hg (hk t)
theorem R3{w w':World}{base e size n:Nat}{v:Value}{xs:List Value}(h:w.ownsRow base e size v n xs)(hk:Ey w w'):w'.ownsRow base e size v n xs:=by
 refine⟨h.1,?_⟩;rcases h.2 with⟨h1,h2⟩|⟨g,cap,cur,rfl,h1,h2,h3,h4,h5,h6⟩
 ·exact .inl ⟨h1,h2⟩
 ·exact .inr ⟨g,cap,cur,rfl,h1,hk _ _ _ h2,h3,h4,h5,h6⟩
theorem T1{D:Nat->Prop}{s:Nm}{h m k:Nat}{w w':World}(hk:B6 D s h m w)(hg:w.grownBy w' (some k))(ho:∀t,Off w k t)(hm:m≠k):B6 D s h m w':=by
 obtain⟨h1,h2,tl,h3,h4,h5⟩:=hk;refine⟨h1.off hg (ho _),h2,tl,h3.kept hg (by simpa using hm),fun a v ha=>?_,h5⟩;obtain⟨l,n,g,e1,e2,e3⟩:=h4 a v ha;refine⟨l,n,g,e1,e2,e3.kept hg (fun e=>?_)⟩;injection e with e
 subst e;obtain⟨cur,hC,_⟩:=e3;exact ho _ _ hC
theorem A9.turnN{Bs g base n:Nat}{w w':World}{G:GmS}{v:Value}{xs:List Value}(h:A9 Bs w g G)(ho:w.ownsRow base 24 8 v n xs)(hg:w.grownBy w' v.ownBlock)(hk:∀(i:Nat) (k:KyS),G.ks[i]? =some k->Bg k.seed k.h k.m w'):A9 Bs w' g G:=by
 have hT:=CD ho;exact⟨h.blk.offB hg hT (by decide),Bh h.krow hg hT (by decide),Bh h.prow hg hT (by decide),Bh h.srow hg hT (by decide),fun i k hi=>⟨hk i k hi,(h.keys i k hi).2⟩,fun i p hp=>⟨(h.prs i p hp).1.offB hg hT (by decide) (by decide) (by decide) (by decide),(h.prs i p hp).2⟩,fun i x hx=>Bh (h.sgs i x hx) hg hT (by decide),h.kn,h.pn,h.sn⟩
def GmS.pkL(G:GmS):List Nm:=G.ks.map fun k=>Lu k.seed
theorem T2{Bs g:Nat}{w:World}{G:GmS}(h:A9 Bs w g G)(hBs:Bs<=w.heap.size)(hn:G.ks.length<=10):Calls prog 31 #[Az g] w fun e w'=>∃v:Value,e= .returned v/\Below Bs w w'/\Ey w w'/\A9 Bs w' g G/\w'.ownsRow w.heap.size 24 8 v G.ks.length (G.pkL.flatMap nmc):=by
 obtain⟨A,c,hkv⟩:=Av h.krow;obtain⟨n,hnn⟩:=ZH G.ks.length;rw[<-hnn]at hkv hn;have y1:w.cell? ⟨g,10,none⟩=some (.slice A n c):=by rw[<-hkv];exact h.blk.cell 10
 have HC:Hid (∀i,i<n->∃(k:KyS) (ab:Nat),G.ks[i]? =some k/\A=some ⟨ab,0,none⟩/\∀V,A9 Bs V g G->V.cell? ⟨ab,i,none⟩=some (Az k.h)):=fun i hi=>by
  obtain⟨k,hk⟩:∃k,G.ks[i]? =some k:=⟨_,AD (by omega)⟩;have key:∀V,A9 Bs V g G->∃ab,A=some ⟨ab,0,none⟩/\V.cell? ⟨ab,i,none⟩=some (Az k.h):=fun V hV=>by
   obtain⟨ab,ac,e,hc,_,_⟩:=Cg (i:=i) (u:=Az k.h) hV.krow (by rw[AQ,hk];rfl);rw[hkv]at e;injection e with e _ _
   exact⟨ab,e,hc⟩
  obtain⟨ab,e,_⟩:=key w h;refine⟨k,ab,hk,e,fun V hV=>?_⟩;obtain⟨ab',e',hc⟩:=key V hV;rw[e]at e';injection e' with e'
  injection e' with e'
  rw[e'];exact hc
 have HG:=AA h;have HN:=AA hnn;clear h hkv hnn;go_enter func31,ntmps31;go_wp2
 go_loopw [3,13] (fun v iv wr=>∃i:Nat,iv= .int .i64 (i:Int)/\i<=n/\A9 Bs wr g G/\Ey w wr/\(∀(j:Nat) (k:KyS),G.ks[j]? =some k->B6 (fun b=>v.ownBlock≠some b) k.seed k.h k.m wr)/\wr.ownsRow w.heap.size 24 8 v i ((G.pkL.take i).flatMap nmc)/\Below Bs w wr) (fun _ iv _=>n-(intOf iv).toNat)
 case atStart=>exact⟨0,rfl,Nat.zero_le _,HG.out,Ey.refl w,(fun j k hk=>(HG.out.keys j k hk).1.toD (fun b=>by simp[Value.ownBlock])),⟨by simp,.inl ⟨rfl,rfl⟩⟩,AC _ _⟩
 case round=>
  obtain⟨i,rfl,hin,hG,hK,hky,xA,hb⟩:=hrel;have HKD:=AA hky;clear hky;have xK:=AA xA;have HG1:=AA hG;have HK1:=AA hK;clear xA hG hK;by_cases hi:i<n
  ·have di:=ZK (show i<n by omega)
   obtain⟨k,ab,hk,rfl,hc⟩:=HC.out i hi;have x1:=hc wr HG1.out;have HKy:=AA (R0 (fun b=>u3.ownBlock≠some b) k.seed k.h k.m wr (HKD.out i k hk) (fun b hb1 e=>by have:=(xK.out.lt b e).2;omega));have HI:=AA hk;have HNx:Hid (G.pkL.take (i+1)=G.pkL.take i++[Lu k.seed]):=by unfold Hid GmS.pkL;rw[Ai,AQ,hk];rfl
   have hkm:=(HG1.out.keys i k hk).2;have yK:Bs<=wr.heap.size:=AG hBs hb.size;obtain⟨pk,hpk⟩:=ZH (Lu k.seed);rw[<-hpk]at HKy HNx;clear hk hc hpk;go_wp2_with ((first
    |(go_at_call 58;refine HKy.out.mono ?_;rintro en w5 ⟨rfl,hky,hg5⟩;have hEM:∀t,Off wr k.m t:=(by obtain⟨_,_,tl,hM,_⟩:=(HG1.out.keys i k HI.out).1;exact fun t=>.map hM);have HG5:=AA (HG1.out.turnM HI.out hg5 hky.key);have HK5:=AA (HK1.out.off hg5 hEM);have HO5:=AA (BR xK.out hg5 (hEM _));have hb5:Below Bs w w5:=hb.grown hg5 yK (ZJ hkm);have hs5:w.heap.size<=w5.heap.size:=hb5.size;have hHj:Hid (∀(j:Nat) (k:KyS),G.ks[j]? =some k->B6 (fun b=>u3.ownBlock≠some b) k.seed k.h k.m w5):=(fun j k' hj=>(by by_cases e:i=j;(subst e;rw[HI.out]at hj;injection hj with hj;subst hj;exact hky);exact T1 (HKD.out j k' hj) hg5 hEM (fun e'=>e (HG1.out.kn i j _ _ HI.out hj e'.symm))));clear hky hg5 hEM)
    |(refine BS rfl 75 24 (.tmp 19) rfl pk.cells rfl underlying75 (by kernel_rfl) (by decide) (by decide) ?_)
    |(at_builtin;refine Ar rfl (.tmp 17) (.tmp 20) _ rfl w.heap.size 24 (Nm.val ⟨0,0,0,0,0,0,0,0⟩) 8 8 underlying75 DB rfl (by decide) u3 i ((G.pkL.take i).flatMap nmc) rfl ?r0 (w5.heap.size+1) (some ⟨w5.heap.size,0,none⟩) 1 1 (nmc pk) rfl ?r1 ?r2 ?r3 ?r4 ?r5 ?r6 ?_)))
   case r0=>exact HO5.out.alloc _
   case r1=>rfl
   case r2=>exact Rd.mk (by omega) (fun j u hu=>by rw[Nat.zero_add,(Blk.new w5 _ _).cell];simpa using hu)
   case r3=>exact fun u hu=>KA pk hu
   case r4=>omega
   case r5=>unfold maxLen;omega
   case r6=>simp;omega
   intro v7 w7 xL hg7 xr;have hba:ZN w5 (w5.alloc (.cells pk.cells 24)):=(AC _ w5).alloc (AB _) _;have hOa:=HO5.out.alloc (.cells pk.cells 24);have hBR:∀(j:Nat) (k:KyS),G.ks[j]? =some k->B6 (fun b=>u3.ownBlock≠some b) k.seed k.h k.m w7:=fun j k hj=>by
    have h5:=(hHj.out j k hj).below hba;refine h5.turn hg7 (fun e=>?_) (fun e=>?_) (fun b hb e=>hb e)
    ·obtain⟨cs,hB⟩:=CD hOa _ e;exact absurd (CW hB h5.1) (by decide)
    ·obtain⟨cs,hB⟩:=CD hOa _ e;obtain⟨_,_,tl,⟨es,c0,h6,_⟩,_⟩:=h5;unfold Blk at hB;rw[hB]at h6;cases h6
   have hG7:A9 Bs w7 g G:=(HG5.out.below hba).turnN hOa hg7 (fun j k hj=>(hBR j k hj).key);have hK7:Ey w w7:=fun b t cs hB=>by
    refine((HK5.out.below hba) b t cs hB).kept hg7 (fun e=>?_);have h1:=(xK.out.lt b e.symm).1;have h2:=hB.lt;omega
   have hD7:∀(j:Nat) (k:KyS),G.ks[j]? =some k->B6 (fun b=>v7.ownBlock≠some b) k.seed k.h k.m w7:=fun j k hj=>by
    rcases xr with e|e
    ·rw[show(fun b=>v7.ownBlock≠some b)=fun b=>u3.ownBlock≠some b by funext b;rw[e]];exact hBR j k hj
    ·have h5:=((hHj.out j k hj).below hba).lt (D':=fun b=>u3.ownBlock≠some b/\v7.ownBlock≠some b) (fun b hlt hb=>⟨hb,fun e'=>by rw[e]at e';injection e' with e';simp at hlt;omega⟩);refine B6.lt (h5.turn hg7 (fun e=>?_) (fun e=>?_) (fun b hb e=>hb.1 e)) (fun b _ hb=>hb.2)
     ·obtain⟨cs,hB⟩:=CD hOa _ e;exact absurd (CW hB h5.1) (by decide)
     ·obtain⟨cs,hB⟩:=CD hOa _ e;obtain⟨_,_,tl,⟨es,c0,h6,_⟩,_⟩:=h5;unfold Blk at hB;rw[hB]at h6;cases h6
   have hb7:Below Bs w w7:=(hb5.alloc (AG hBs hs5) _).grown hg7 (AG (AG hBs hs5) (by simp)) (fun b e=>by have h1:=(xK.out.lt b e).1;omega);have hO7:w7.ownsRow w.heap.size 24 8 v7 (i+1) ((G.pkL.take (i+1)).flatMap nmc):=by
    rw[HNx.out,Af];simpa using xL
   have HG7:=AA hG7;have HK7:=AA hK7;have HD7:=AA hD7;have HO7:=AA hO7;clear hba hOa hBR hG7 hK7 hD7 hO7 xL hg7 xr;go_wp2;go_roundw
   case rel=>exact⟨i+1,by go_num,by omega,HG7.out,HK7.out,HD7.out,HO7.out,hb7⟩
   case measure=>simp[intOf];omega
  ·have di:=ZL (show n<=i by omega)
   have e:G.pkL.take i=G.pkL:=AT (by unfold GmS.pkL;rw[AX,<-HN.out];omega);have yD:Hid (wr.ownsRow w.heap.size 24 8 u3 G.ks.length (G.pkL.flatMap nmc)):=by
    have h:=xK.out;rw[e,show i=G.ks.length by rw[<-HN.out];omega]at h;exact h
   clear e;go_wp2;go_ret;exact⟨u3,rfl,hb,HK1.out,HG1.out,yD.out⟩
end
section

section
variable {n T:Nat}{T0 L0:Int}{s:Nm}{G:GmS}
theorem PlI.popM(h:PlI n T0 L0 s T G)(hn:n<=7):Aw (xOf G.M) 10=n:=by
 rw[h.M];rcases(by omega:n=0∨n=1∨n=2∨n=3∨n=4∨n=5∨n=6∨n=7)with rfl|rfl|rfl|rfl|rfl|rfl|rfl|rfl <;> decide
theorem PlI.no_conf(h:PlI n T0 L0 s T G){i j k b b':Nat}{P Q:PrS}{u v:Vt}(hi:G.ps[i]? =some (b,P))(hj:G.ps[j]? =some (b',Q))(hu:u∈P.D)(hv:v∈Q.D)(hs:u.signer=(k:Int))(hb:G.hb k=true):¬CN u v:=fun hc=>by
 obtain⟨x,hx,rfl⟩:=PrS.mem_D.1 hu;obtain⟨y,hy,rfl⟩:=PrS.mem_D.1 hv;obtain⟨_,m,a,_,_,m1,m2,m3,_⟩:=h.inv.held i b P hi x hx;obtain⟨_,m',a',_,_,n1,n2,n3,_⟩:=h.inv.held j b' Q hj y hy;obtain⟨c1,⟨c2,c3,c4,c5,c6⟩,_⟩:=hc;have e1:m=k:=by have:x.vote.signer=(m:Int):=m1;omega
 have e2:m'=k:=by have:y.vote.signer=(m':Int):=n1;omega
 subst e1;subst e2;rw[m2]at n2;injection n2 with n2
 subst n2;exact c1 (h.inv.uniq m' a hb m2 _ m3 _ n3 ⟨c2,c4,c5,c6,c3⟩)
theorem PlI.third(h:PlI n T0 L0 s T G){i j b b':Nat}{P Q:PrS}(hi:G.ps[i]? =some (b,P))(hj:G.ps[j]? =some (b',Q))(hP:P.dd=true)(hQ:Q.dd=true)(hne:P.dec≠Q.dec):0<Aw (xOf G.M) 10/\∃l1 l2:List Vt,(∀v∈l1,v∈P.D)/\(∀v∈l2,v∈Q.D)/\I3 (xOf G.M) (l1++l2):=by
 obtain⟨l1,L1,a1,d1,e1⟩:=(h.dec i b P hi).2 hP;obtain⟨l2,L2,a2,d2,e2⟩:=(h.dec j b' Q hj).2 hQ;have d1:Qq G.M G.par l1 10 L1:=by
  rcases d1 with⟨_,d,_⟩|⟨d,_⟩
  ·exact d
  ·cases d
 have d2:Qq G.M G.par l2 10 L2:=by
  rcases d2 with⟨_,d,_⟩|⟨d,_⟩
  ·exact d
  ·cases d
 have hs:L1.map (·.slot)=L2.map (·.slot):=d1.1.trans d2.1.symm;have hl:L1.length=L2.length:=by
  have:=congrArg List.length hs;rwa[AX,AX]at this
 obtain⟨k,x,y,hx,hy,hxy⟩:∃(k:Nat) (x y:Oc),L1[k]? =some x/\L2[k]? =some y/\Fm x≠Fm y:=by
  refine Classical.byContradiction fun hno=>hne ?_
  rw[e1,e2];apply List.ext_getElem?;intro k;rw[AQ,AQ];rcases hx:L1[k]? with _|x
  ·rw[List.getElem?_eq_none (by have:=List.getElem?_eq_none_iff.1 hx;omega)]
  ·obtain⟨y,hy⟩:∃y,L2[k]? =some y:=⟨_,AD (by have:=(AE.1 hx).1;omega)⟩;rw[hy];show some (Fm x)=some (Fm y);exact congrArg some (Classical.byContradiction fun hc=>hno ⟨k,x,y,hx,hy,hc⟩)
 have hsl:x.slot=y.slot:=by
  have:=congrArg (fun l=>l[k]?) hs;simp only[AQ,hx,hy,Option.map_some,Option.some.injEq]at this;exact this
 have hv:x.value≠y.value:=fun e=>hxy (by unfold Fm;rw[hsl,e])
 have yF:0<Aw (xOf G.M) 10:=by
  have h1:=congrArg (fun l=>l[k]?) d1.1;simp only[AQ,hx,Option.map_some]at h1;obtain⟨m,hm,_⟩:=Option.map_eq_some_iff.1 h1.symm;obtain⟨h2,h3⟩:=I5.1 (AM hm);refine Nat.pos_of_ne_zero fun h0=>?_
  have:=EW (a:=2^m) (b:=xOf G.M) (fun i _ hb=>by
   rw[Nat.testBit_two_pow]at hb;have:m=i:=of_decide_eq_true hb;rw[<-this];exact h3) 10 (AB _)
  rw[h0]at this;rcases(by omega:m=0∨m=1∨m=2∨m=3∨m=4∨m=5∨m=6∨m=7∨m=8∨m=9)with rfl|rfl|rfl|rfl|rfl|rfl|rfl|rfl|rfl|rfl <;> exact absurd this (by decide)
 obtain⟨_,O1,o1,q1,_⟩:=d1.2 x (AM hx);obtain⟨_,O2,o2,q2,_⟩:=d2.2 y (AM hy);rw[<-hsl]at o2;exact⟨yF,l1,l2,a1,a2,ND (Qw o1 yF) (Qw o2 yF) yF (q1 x BF).2 (q2 y BF).2 hv⟩
end
end
section
open Go.RowKit
abbrev Ky.cells(k:Ky):Array Value:=#[I k.kind,I k.slot,I k.round,I k.signer,B k.parent.b0,B k.parent.b1,B k.parent.b2,B k.parent.b3,B k.parent.b4,B k.parent.b5,B k.parent.b6,B k.parent.b7]
abbrev GC(k:Ky):Value:=.agg k.cells
theorem V2(a b:Ky)(w:World):(Op.equal 220 (GC a) (GC b)).run prog w= .ok (decide (a=b)) w:=by
 show(Op.equalIn 10000 220 (GC a) (GC b)).run prog w=_;have u3:=underlying3;have a3:=isAgg3;have z3:=sizeOf3;have a5:=isAgg24;have z5:=sizeOf24;have hS:prog.underlying 220=some (.struct (prog.fieldsOf 220)):=by kernel_rfl
 rw[show(10000:Nat)=9999+1 from rfl,run_equalIn_agg w 9999 220 _ _ hS (by kernel_rfl)];have e6:=fun w=>ED a.parent b.parent w 9997
 simp only[Program.fieldsOf,underlying220];go_simp;rw[Ea]
 iterate 3 rw[EZ w rfl]
 refine EZ w ?_;cases a;cases b;simp
theorem V3(b:Bool)(d:Nat)(k:Nm)(w:World):(Instr.checkKey b (d+2) 24 k.val).run prog w= .ok () w:=by
 have a3:=isAgg5;have z3:=sizeOf5;have hi:=fun n w=>KM b d n w
 rw[Instr.checkKey];simp only[Sem.run_bind,run_underlying underlying24,Result.andThen_ok];simp only[Std.Legacy.Range.forIn_eq_forIn_range',Std.Legacy.Range.size,Nat.sub_zero,Nat.add_sub_cancel,Nat.div_one,List.range'_succ,List.range'_zero,List.forIn_cons,List.forIn_nil];go_simp
theorem Pf(b:Bool)(k:Ky)(w:World):(Instr.checkKey b 10000 220 (GC k)).run prog w= .ok () w:=by
 have a3:=isAgg3;have z3:=sizeOf3;have hi:=fun n w=>Ga b 9998 n w
 have a5:=isAgg24;have z5:=sizeOf24;have e6:=fun w=>V3 b 9997 k.parent w
 rw[Instr.checkKey];simp only[Sem.run_bind,run_underlying underlying220,Result.andThen_ok];go_simp
theorem Yd:Es prog 220 GC where
 desc:=⟨_,underlying220,fun _ _=>rfl⟩
 check:=Pf
 eq:=V2
 bits k:=GE 9999 _ (by intro v hv;simp at hv;rcases hv with rfl|rfl|rfl|rfl|rfl|rfl|rfl|rfl|rfl|rfl|rfl|rfl <;> simp[Instr.sameBits])
end
section
open Go.RowKit
attribute [local go_sem ↓] Go.wp_at_zero Go.wp_at_succ Aj Ao Ap Aq
attribute [local go_sem] Ax BB BC BD AK AR AN
theorem Pg(K:Option Addr)(n ck:Nat)(s:Sg)(w:World)(sn:Nat)(hsn:s.vote.signer=(sn:Int))(b o:Nat)(hK:K=some ⟨b,o,none⟩)(key:Nm)(kr:Bool)(hk:sn<n)(yq:∀W,ZN w W->AJ W b (o+sn*8) 8=some key.cells)(hv1:∀W,ZN w W->Calls prog 110 #[key.val,s.val] W (Ac W kr)):Calls prog 200 #[.slice K n ck,s.val] w (Ac w kr):=by
 subst hK;have HS:=AA hsn;clear hsn;have HK:=AA yq;clear yq;have HV1:=AA hv1;clear hv1;have i1:(0:Int)<=(sn:Int):=by omega
 have i2:(sn:Int)<(n:Int):=by omega
 have d1:decide ((0:Int)<=(sn:Int))=true:=by simp
 have d2:decide (sn<n)=true:=by simp;omega
 have hE:Blk (w.alloc (Obj.cells s.cells 62)) w.heap.size 62 s.cells:=Blk.new w _ _;have hbW:ZN w (w.alloc (Obj.cells s.cells 62)):=(AC _ _).alloc (AB _) _;go_enter func200,ntmps200;go_upto_region 1 with fail
 generalize (w.alloc (Obj.cells s.cells 62))=W at*;have c4:W.cell? ⟨w.heap.size,4,none⟩=some (.int .i64 (sn:Int)):=by rw[<-HS.out];exact(hE.cell 4).trans (s.cell_vote 4 _ rfl)
 go_wp2;refine rgD (fun w'=>AJ w' b (o+sn*8) 8=some key.cells/\AJ w' w.heap.size 0 23=some s.cells) (⟨HK.out _ hbW.drew,hE.drew.row 23 (Sg.size_cells _)⟩) fun _=>?_
 iterate 14 (refine tkA ?_;go_frame)
 refine rd1 14 fun K hK=>?_
 go_simp;refine(HV1.out _ hbW.drew).mono ?_;rintro en w2 ⟨rfl,hb2⟩;have yE:=hbW.drew.trans (hb2.mono hbW.size);have hE2:=hE.drew.below hb2 hE.drew.lt;go_wp2_with fail
 refine hK.out _ _ (⟨HK.out _ yE,hE2.row 23 (Sg.size_cells _)⟩) (fun _=>?_);clear hK K;try go_frame
 iterate 2 (refine tkA ?_;go_frame)
 refine dnD ?_;go_wp2;go_ret;exact⟨rfl,yE⟩
theorem Ph(K:Option Addr)(n ck:Nat)(s:Sg)(w:World)(sn:Nat)(hsn:s.vote.signer=(sn:Int))(hk:n<=sn):Calls prog 200 #[.slice K n ck,s.val] w (Ac w false):=by
 have HS:=AA hsn;clear hsn;have d1:decide ((0:Int)<=(sn:Int))=true:=by simp
 have d2:decide (sn<n)=false:=by simp;omega
 have hE:Blk (w.alloc (Obj.cells s.cells 62)) w.heap.size 62 s.cells:=Blk.new w _ _;have hbW:ZN w (w.alloc (Obj.cells s.cells 62)):=(AC _ _).alloc (AB _) _;go_enter func200,ntmps200;go_upto_region 1 with fail
 generalize (w.alloc (Obj.cells s.cells 62))=W at*;have c4:W.cell? ⟨w.heap.size,4,none⟩=some (.int .i64 (sn:Int)):=by rw[<-HS.out];exact(hE.cell 4).trans (s.cell_vote 4 _ rfl)
 go_wp2;refine rgD (fun _=>True) (trivial) fun _=>?_
 iterate 9 (refine tkA ?_;go_frame)
 refine skD 18 9 ?_;go_frame;refine skD 19 10 ?_;go_frame;refine skD 20 11 ?_;go_frame;refine skD 21 12 ?_;go_frame;refine skD 22 13 ?_;go_frame;refine skD 23 14 ?_;go_frame
 iterate 2 (refine tkA ?_;go_frame)
 refine dnD ?_;go_wp2;go_ret;exact⟨rfl,hbW.drew⟩
theorem Pi(K:Option Addr)(n ck:Nat)(s:Sg)(w:World)(z:Int)(hsn:s.vote.signer=z)(hk:z<0):Calls prog 200 #[.slice K n ck,s.val] w (Ac w false):=by
 have HS:=AA hsn;clear hsn;have d1:decide ((0:Int)<=z)=false:=by simp;omega
 have hE:Blk (w.alloc (Obj.cells s.cells 62)) w.heap.size 62 s.cells:=Blk.new w _ _;have hbW:ZN w (w.alloc (Obj.cells s.cells 62)):=(AC _ _).alloc (AB _) _;go_enter func200,ntmps200;go_upto_region 1 with fail
 generalize (w.alloc (Obj.cells s.cells 62))=W at*;have c4:W.cell? ⟨w.heap.size,4,none⟩=some (.int .i64 z):=by rw[<-HS.out];exact(hE.cell 4).trans (s.cell_vote 4 _ rfl)
 go_wp2;refine rgD (fun _=>True) (trivial) fun _=>?_
 iterate 3 (refine tkA ?_;go_frame)
 refine skD 12 3 ?_;go_frame;refine skD 13 4 ?_;go_frame;refine skD 14 5 ?_;go_frame;refine skD 15 6 ?_;go_frame
 iterate 2 (refine tkA ?_;go_frame)
 refine skD 18 9 ?_;go_frame;refine skD 19 10 ?_;go_frame;refine skD 20 11 ?_;go_frame;refine skD 21 12 ?_;go_frame;refine skD 22 13 ?_;go_frame;refine skD 23 14 ?_;go_frame
 iterate 2 (refine tkA ?_;go_frame)
 refine dnD ?_;go_wp2;go_ret;exact⟨rfl,hbW.drew⟩
theorem OG(K:Option Addr)(ck:Nat)(keys:List Nm)(s:Sg)(w:World)(hK:Rd w w.heap.size K (keys.flatMap nmc))(hE:D3 w w.heap.size s)(hca:GA s):Calls prog 200 #[.slice K keys.length ck,s.val] w (Ac w (Fc keys s.vote s.sig)):=by
 unfold Fc;by_cases h0:0<=s.vote.signer
 ·obtain⟨sn,hsn⟩:=Int.eq_ofNat_of_zero_le h0;by_cases h1:s.vote.signer<(keys.length:Int)
  ·rw[decide_eq_true h0,decide_eq_true h1,Bool.true_and,Bool.true_and,show s.vote.signer.toNat=sn from by rw[hsn];rfl];have hlt:sn<keys.length:=by omega
   have hx:=EU Nm.zero hlt;have hne:keys.flatMap nmc≠[]:=by
    intro e0;have:=AY nmc 8 keys (Cb keys);rw[e0]at this;simp at this;omega
   obtain⟨b,o,rfl,_,_⟩:=hK.cells hne;exact Pg _ keys.length ck s w sn hsn b o rfl (keys.getD sn Nm.zero) _ hlt (fun W hW=>(hK.below hW).row hx) (fun W hW=>K7 _ s W ((hE.below hW).more hW.size) hca)
  ·rw[decide_eq_true h0,decide_eq_false h1];exact Ph K keys.length ck s w sn hsn (by omega)
 ·rw[decide_eq_false h0];exact Pi K keys.length ck s w _ rfl (by omega)
def T3(w:World)(k:Ky)(e:Ending)(w':World):Prop:=e= .returned (GC k)/\ZN w w'
abbrev Q1:Array Value:=#[.int .i64 0,.int .i64 0,.int .i64 0,.int .i64 0,.int .u8 0,.int .u8 0,.int .u8 0,.int .u8 0,.int .u8 0,.int .u8 0,.int .u8 0,.int .u8 0]
theorem Q2:(prog.info? 220).map (·.size)=some 12:=by kernel_rfl
theorem T4(v:Vt)(w:World):Calls prog 155 #[v.val] w (T3 w (Cs v)):=by
 obtain⟨w1,hw1⟩:=ZH ((w.alloc (.cells v.cells 46)).alloc (.cells Q1 220));have hbw:ZN w w1:=by rw[hw1];exact((AC _ _).alloc (AB _) _).alloc (by simp) _
 have HBv:Hid (Blk w1 w.heap.size 46 v.cells):=by unfold Hid;rw[hw1];exact(Blk.new w _ _).alloc _
 have HBr:Hid (Blk w1 (w.heap.size+1) 220 Q1):=by
  unfold Hid;rw[hw1];have:=Blk.new (w.alloc (.cells v.cells 46)) 220 Q1;simpa using this
 obtain⟨k,hk⟩:=ZH (Cs v);rw[<-hk];have c0:w1.cell? ⟨w.heap.size,0,none⟩=some (I k.kind):=by rw[hk];exact HBv.out.cell 0
 have c1:w1.cell? ⟨w.heap.size,1,none⟩=some (I k.slot):=by rw[hk];exact HBv.out.cell 1
 have c2:w1.cell? ⟨w.heap.size,2,none⟩=some (I k.round):=by rw[hk];exact HBv.out.cell 2
 have c4:w1.cell? ⟨w.heap.size,4,none⟩=some (I k.signer):=by rw[hk];exact HBv.out.cell 4
 have x6:AJ w1 w.heap.size 6 8=some k.parent.cells:=by rw[hk];exact v.row_parent HBv.out
 clear hk;go_enter func155,ntmps155;go_upto_region 1 with fail
 rw[<-hw1];clear hw1;go_wp2_with (refine AI rfl 220 (.tmp 2) (.tmp 13) rfl (w.heap.size+1) k.cells rfl rfl 220 Q1 HBr.out rfl Q2 (fun u hu=>by simp at hu;rcases hu with rfl|rfl|rfl|rfl|rfl|rfl|rfl|rfl|rfl|rfl|rfl|rfl <;> rfl) ?_;intro w5 hR5 hg5 yp)
 exact bodyPost_ret (results_cell_row (g:=w.heap.size+1) (cs:=k.cells) rfl _ _ _ _ _ rfl hR5 underlying220 rfl Q2) rfl ⟨rfl,hbw.grown hg5 hbw.size (by rintro j ⟨⟩;omega)⟩
def Mv:Ev:=⟨Co,Co⟩
def ET:Array Value:=((List.replicate 10 Mv).flatMap evc).toArray
noncomputable def Q3(t:TypeId):Sem Value:=Instr.alloc t true (.tuple #[])
theorem Xe:Instr.alloc 217 true (.tuple #[])=Q3 217:=rfl
theorem Ye:(prog.info? 217).map (·.zero)=some (some (.agg ET)):=by kernel_rfl
theorem Yf:(prog.info? 217).map (·.size)=some 460:=by kernel_rfl
theorem Ln{P:Program}(t:TypeId)(Z:Array Value)(h:(P.info? t).map (·.zero)=some (some (.agg Z)))(w:World):(Instr.alloc t true (.tuple #[])).run P w= .ok (.pointer (some ⟨w.heap.size,0,none⟩)) (w.alloc (.cells Z t)):=by
 cases hi:P.info? t with
 |none=>rw[hi]at h;cases h
 |some i=>
  rw[hi]at h;injection h with h
  simp[Instr.alloc,zeroValue,typeInfo,hi,h,newVar,newRow,Value.cells]
theorem Y5(w:World):(Q3 217).run prog w= .ok (.pointer (some ⟨w.heap.size,0,none⟩)) (w.alloc (.cells ET 217)):=Ln _ _ Ye w
theorem Yg(p:Value):Instr.loadAt 217 p=CQ 217 p:=rfl
theorem Yh(b o:Nat)(w:World):(CQ 217 (.pointer (some ⟨b,o,none⟩))).run prog w=DC 217 b o w (AJ w b o 460):=CX _ 460 b o w _ underlying217 rfl Yf
theorem H7(l:List Ev):(l.flatMap evc).length=l.length*46:=AY evc 46 l (Gp l)
theorem Blk.evRow{w:World}{g t i:Nat}{l:List Ev}{e:Ev}(h:Blk w g t (l.flatMap evc).toArray)(hi:l[i]? =some e):AJ w g (i*46) 46=some e.cells:=by
 refine Bq (fun j u hu=>?_) e.size_cells;have hj:j<46:=by
  have:=(AE.1 hu).1;rwa[Array.length_toList,e.size_cells]at this
 rw[h.cell,List.getElem?_toArray,B4 evc 46 l (Gp l) i j e hi hj,<-hu]
theorem Blk.evA{w:World}{g t i:Nat}{l:List Ev}{e:Ev}(h:Blk w g t (l.flatMap evc).toArray)(hi:l[i]? =some e):AJ w g (i*46) 22=some e.a.vote.cells:=by
 have h1:=(Ds (h.evRow hi)).2;refine Bq (fun j u hu=>h1 j u ?_) rfl;have:=e.cell_a j u (e.a.cell_vote j u (by simpa using hu));simpa using this
theorem J3{ops:Array Oper}{rest:List Oper}{o:Oper}{a:Act}{w:World}{Q:Exit->Act->World->Prop}(hgd:o.guard=none)(x y:Operand)(ho:o.op= .store 125 x y)(g i:Nat)(e:Ev)(hx:a.eval x= .pointer (some ⟨g,i*46,none⟩))(hy:a.eval y=e.val)(t:TypeId)(l:List Ev)(hB:Blk w g t (l.flatMap evc).toArray)(hi:i<l.length)(h:∀w',Blk w' g t ((l.set i e).flatMap evc).toArray->w.grownBy w' (some g)->wpList prog ops Q rest (a.put o.dst undef) w'):wpList prog ops Q (o::rest) a w:=by
 have hlen:=H7 l;have hb:i*46+46<=l.length*46:=by omega
 have hth:w.there g (i*46) 46:=fun j hj=>⟨by
  rw[hB.cell,Array.getElem?_eq_getElem (by simp only[List.size_toArray];omega)];rfl,hB.frozen _⟩
 refine wpList_store_mid hgd 125 x y ho g (i*46) e.cells hx hy (by rw[e.size_cells];exact hth) (by rw[e.size_cells];exact De) (Array.all_eq_true_iff_forall_mem.2 fun v hv=>JQ e (by simpa using hv)) ?_;obtain⟨b1,k1⟩:=DD g t e.cells.toList (i*46) w (l.flatMap evc) hB (by rw[Array.length_toList,e.size_cells,hlen];exact hb);rw[Array.length_toList,e.size_cells,<-GN evc 46 l (Gp l) i e hi]at b1;exact h _ b1 k1
theorem V4{κ:Type}[DecidableEq κ]{P:Program}{kt:TypeId}{enc:κ->Value}{o:Oper}{a:Act}{w:World}{K:Act->World->Prop}{Q:Exit->Act->World->Prop}(t e:TypeId)(mo ko vo:Operand)(ho:o.op= .mapUpdate t mo ko vo)(hd:o.dst=none)(m:Nat)(k:κ)(v:Value)(l:List (κ×Value))(hm:a.eval mo= .map (some m))(hk:a.eval ko=enc k)(hv:a.eval vo=v)(h:By enc w m l)(hK:Es P kt enc)(ht:P.underlying t=some (.map kt e))(next:∀w',By enc w' m (CP k v l)->w.grownBy w' (some m)->w'.heap.size=w.heap.size->K a w'):o.wp P a w K Q:=by
 obtain⟨w',hr,h1,h2,h3⟩:=h.store hK ht k v;unfold Oper.wp execOp;rw[ho];simp only[hm,hk,hv,Sem.run_bind,hr,Result.andThen_ok,Sem.run_pure];rw[Oper.upon_skip,hd];exact next w' h1 h2 h3
end
end Go.Proofs.YtadllffeoibelaaGreat
