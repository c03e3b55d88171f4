/-
  Parts of the proof. No condition.
-/
import Derived.Test.YtadllffeoibelaaGreatS27
open Go.Proofs.Tryz
namespace Go.Proofs.YtadllffeoibelaaGreat
set_option maxRecDepth 100000
set_option maxHeartbeats 32000000
set_option linter.all false
section
open Go.RowKit
attribute [local go_sem ↓] Go.wp_at_zero Go.wp_at_succ Aq Au Av Aw
attribute [local go_sem] BE BL BM BN AR AX AU
theorem Ml{op:Oper}{a:Act}{w w':World}{K:Act->World->Prop}{Q:Exit->Act->World->Prop}(d:Option Tmp)(hd:op.dst=d)(v:Value)(hr:(execOp a.eval op).run prog w= .ok (.value v) w')(hK:K (a.put d v) w'):op.wp prog a w K Q:=by
 subst hd;exact B9 v hr hK
def SB(n hon:Int)(v:Vt):Bool:=!decide (AW v)||(decide (n<=v.signer)||(xOf hon).testBit v.signer.toNat)
def WM(idx:List Nat)(v:Vt)(G G':GmS):Prop:=∃(m:Nat) (y:KyS) (sv0:Value) (sl:List Vt) (vs:Value),v.signer=(m:Int)/\G.ks[m]? =some y/\G.sg[m]? =some (sv0,sl)/\Ed [(v,Ex y.seed 1023 (Dx v))] idx idx.length (G.setS m vs (sl++[v])) G'
def Tq(Bs g:Nat)(idx:List Nat)(v:Vt)(G:GmS)(w:World)(e:Ending)(w':World):Prop:=
 Below Bs w w'/\KSt w w'/\((SB G.ks.length G.hon v=true/\e= .returned (.int .i64 1)/\Ax Bs w' g G)∨(SB G.ks.length G.hon v=false/\e= .returned (.int .i64 0)/\∃G',Ax Bs w' g G'/\WM idx v G G'))
theorem Tr{Bs g:Nat}{w:World}{G:GmS}(h:Ax Bs w g G)(hBs:Bs<=w.heap.size)(v:Vt)(hv:v.ok)(idx:List Nat)(hnd:idx.Nodup)(hlt:∀i∈idx,i<G.ps.length)(hl20:idx.length<=20)(hsm:∀(i b:Nat) (P:PrS),G.ps[i]? =some (b,P)->P.L.length<=25000)(hks:G.sg.length=G.ks.length)(hsl:∀(m:Nat) (x:Value×List Vt),G.sg[m]? =some x->x.2.length<1000000)(A:Option Addr)(n c:Nat)(hn:idx.length=n)(hr:w.ownsRow Bs 98 1 (.slice A n c) n (idx.map fun i=>At (G.bk i))):Calls prog 42 #[At g,v.val,.slice A n c] w (Tq Bs g idx v G w):=by
 obtain⟨w1,hw1⟩:=Wr (w.alloc (.cells v.cells 46));have hb1:Wx w w1:=by rw[hw1];exact(AC _ _).alloc (AB _) _
 have h1:Ax Bs w1 g G:=h.below hb1;obtain⟨q,hq⟩:=Wr w.heap.size;have hV1:Blk w1 q 46 v.cells:=by rw[hw1,hq];exact Blk.new w _ _
 have hqB:Bs<=q:=by omega
 have hr1:=BP hr hb1 (AB _);have hEs:Below Bs w w1:=hb1.mono hBs;have hS1:KSt w w1:=fun b cs hB=>hB.below hb1 hB.lt
 have yE:Bs<=w1.heap.size:=AG hBs hb1.size;obtain⟨Ak,kc,hkv⟩:=BD h.krow;obtain⟨nk,hnk⟩:=Wr G.ks.length;rw[<-hnk]at hkv;have HX:Hid (∀V,Wx w1 V->AK V q 0 22=some v.cells/\V.cell? ⟨q,4,none⟩=some (.int .i64 v.signer)/\V.cell? ⟨g,10,none⟩=some (.slice Ak nk kc)/\V.cell? ⟨g,1,none⟩=some (.int .i64 G.hon)):=fun V hV=>
  ⟨(hV1.below hV hV1.lt).row 22 rfl,(hV1.below hV hV1.lt).cell 4,by rw[<-hkv];exact(h1.below hV).blk.cell 10,(h1.below hV).blk.cell 1⟩
 obtain⟨ok,hok⟩:=Wr (decide (AW v));obtain⟨far,hDw⟩:=Wr (decide ((nk:Int)<=v.signer));obtain⟨hb,hhb⟩:=Wr ((xOf G.hon).testBit v.signer.toNat);obtain⟨r,hrr⟩:=Wr (SB G.ks.length G.hon v);have hr0:r=(!ok||(far||hb)):=by rw[hrr,hok,hDw,hhb,hnk];rfl
 have HVl:Hid (∀V,Calls prog 49 #[v.val] V fun e w'=>e= .returned (.bool ok)/\Wx V w'):=fun V=>by rw[hok];exact De v V hv
 have HHs:Hid (ok=true->∀V,Calls prog 19 #[.int .i64 G.hon,.int .i64 v.signer] V fun e w'=>e= .returned (.bool hb)/\w'=V):=fun ht V=>by
  rw[hok]at ht;have hy:AW v:=of_decide_eq_true ht;rw[hhb];exact Dg G.hon v.signer hy.2.1.1 hy.2.1.2 V
 have HG0:=AA h;have HG1:=AA h1;have HV1:=AA hV1;have HR1:=AA hr1;have HN:=AA hn;have HNd:=AA hnd;have hCW:n<=20:=by omega
 have HLt:=AA hlt;have HSm:=AA hsm;have HKs:=AA hks;have HSl:=AA hsl;have HOk:=AA hok;have HFar:=AA hDw.symm;have HVo:=AA hv;have HRr:=AA hrr;have HR0:=AA hr0;have HW1:=AA hw1;have HQ:=AA hq;have HKv:=AA hkv;have HNk:=AA hnk;have hGq:=hDw.symm;have hbx:Wx w1 w1:=AC _ _;have hql:q<w1.heap.size:=hV1.lt;clear h h1 hV1 hr hr1 hn hnd hlt hsm hks hsl hok hDw hhb hv hrr hr0 hw1 hq hkv hnk hb1;go_enter func42,ntmps42;go_upto_region 1 with fail
 simp only[<-HW1.out,<-HQ.out];go_cut[32] (fun bv wx=>bv= .bool r/\Wx w1 wx)
 case first=>
  cases ok with
  |false=>
   refine rgD (fun V=>AK V q 0 22=some v.cells/\V.cell? ⟨q,4,none⟩=some (.int .i64 v.signer)/\V.cell? ⟨g,10,none⟩=some (.slice Ak nk kc)/\V.cell? ⟨g,1,none⟩=some (.int .i64 G.hon)) (HX.out _ (AC w1.heap.size w1).drew) fun _=>?_
   refine tkD 11 0 ?_;go_frame;refine rd1 1 fun K hK=>?_
   go_simp;refine(HVl.out _).mono ?_;rintro en w2 ⟨rfl,hb2⟩;have xU:Wx w1 w2:=((AC w1.heap.size w1).drew).trans (hb2.mono (Below.size (AC w1.heap.size w1).drew));go_wp2_with fail
   refine hK.out _ _ (HX.out _ xU) (fun _=>?_);clear hK K;try go_frame
   iterate 2 (refine tkA ?_;go_frame)
   refine skD 15 4 ?_;go_frame;refine skD 16 5 ?_;go_frame;refine skD 17 6 ?_;go_frame;refine skD 18 7 ?_;go_frame;refine skD 19 8 ?_;go_frame;refine skD 20 9 ?_;go_frame;refine skD 21 10 ?_;go_frame;refine skD 22 11 ?_;go_frame
   iterate 2 (refine tkA ?_;go_frame)
   refine skD 25 14 ?_;go_frame;refine skD 26 15 ?_;go_frame;refine skD 27 16 ?_;go_frame;refine skD 28 17 ?_;go_frame;refine skD 29 18 ?_;go_frame;refine skD 30 19 ?_;go_frame;refine skD 31 20 ?_;go_frame;refine tkD 32 21 ?_;go_frame;refine dnD ?_;go_wp2_with fail
   go_meet;exact⟨by rw[HR0.out];rfl,xU⟩
  |true=>
   cases far with
   |true=>
    refine rgD (fun V=>AK V q 0 22=some v.cells/\V.cell? ⟨q,4,none⟩=some (.int .i64 v.signer)/\V.cell? ⟨g,10,none⟩=some (.slice Ak nk kc)/\V.cell? ⟨g,1,none⟩=some (.int .i64 G.hon)) (HX.out _ (AC w1.heap.size w1).drew) fun _=>?_
    refine tkD 11 0 ?_;go_frame;refine rd1 1 fun K hK=>?_
    go_simp;refine(HVl.out _).mono ?_;rintro en w2 ⟨rfl,hb2⟩;have xU:Wx w1 w2:=((AC w1.heap.size w1).drew).trans (hb2.mono (Below.size (AC w1.heap.size w1).drew));go_wp2_with fail
    refine hK.out _ _ (HX.out _ xU) (fun _=>?_);clear hK K;try go_frame
    iterate 12 (refine tkA ?_;go_frame)
    refine skD 25 14 ?_;go_frame;refine skD 26 15 ?_;go_frame;refine skD 27 16 ?_;go_frame;refine skD 28 17 ?_;go_frame;refine skD 29 18 ?_;go_frame;refine skD 30 19 ?_;go_frame;refine skD 31 20 ?_;go_frame;refine tkD 32 21 ?_;go_frame;refine dnD ?_;go_wp2_with fail
    go_meet;exact⟨by rw[HR0.out];rfl,xU⟩
   |false=>
    refine rgD (fun V=>AK V q 0 22=some v.cells/\V.cell? ⟨q,4,none⟩=some (.int .i64 v.signer)/\V.cell? ⟨g,10,none⟩=some (.slice Ak nk kc)/\V.cell? ⟨g,1,none⟩=some (.int .i64 G.hon)) (HX.out _ (AC w1.heap.size w1).drew) fun _=>?_
    refine tkD 11 0 ?_;go_frame;refine rd1 1 fun K hK=>?_
    go_simp;refine(HVl.out _).mono ?_;rintro en w2 ⟨rfl,hb2⟩;have xU:Wx w1 w2:=((AC w1.heap.size w1).drew).trans (hb2.mono (Below.size (AC w1.heap.size w1).drew));go_wp2_with fail
    refine hK.out _ _ (HX.out _ xU) (fun _=>?_);clear hK K;try go_frame
    iterate 18 (refine tkA ?_;go_frame)
    refine rd1 20 fun K hK=>?_
    go_simp;refine(HHs.out (by first|exact rfl|trivial) _).mono ?_;rintro en w3 ⟨rfl,hw3⟩;replace hw3:=hw3.symm;subst hw3;go_wp2_with fail
    refine hK.out _ _ (HX.out _ xU) (fun _=>?_);clear hK K;try go_frame
    refine tkD 32 21 ?_;go_frame;refine dnD ?_;go_wp2_with fail
    go_meet;exact⟨by rw[HR0.out];rfl,xU⟩
 case rest=>
  obtain⟨rfl,xU⟩:=hcut;generalize wc=w2 at*;have hGr:Below Bs w w2:=hEs.trans (xU.mono yE);have hS2:KSt w w2:=fun b cs hB=>(hS1 b cs hB).below xU (hS1 b cs hB).lt
  have HS2:=AA hS2;clear hS1 hS2;have zL:Bs<=w2.heap.size:=AG yE xU.size;have hG2:=HG1.out.below xU;have HG2:=AA hG2;clear hG2;cases r with
  |true=>
   go_wp2;go_ret;exact⟨hGr,HS2.out,.inl ⟨HRr.out.symm,rfl,HG2.out⟩⟩
  |false=>
   have hEv:ok=true:=by
    have h2:=HR0.out;cases ok with
    |true=>rfl
    |false=>cases h2
   have hft:far=false:=by
    have h2:=HR0.out;rw[hEv]at h2;cases far with
    |true=>cases h2
    |false=>rfl
   have hy:AW v:=by
    have h2:=HOk.out;rw[hEv]at h2;exact of_decide_eq_true h2.symm
   have hsn:v.signer<(nk:Int):=by
    have h2:=HFar.out;rw[hft]at h2;simp at h2;exact h2
   obtain⟨m,hm⟩:∃m:Nat,v.signer=(m:Int):=⟨v.signer.toNat,by have:=hy.2.1.1;omega⟩;rw[hm]at hsn;have hmk:m<G.ks.length:=by rw[<-HNk.out];omega
   obtain⟨y,hyk⟩:∃y,G.ks[m]? =some y:=⟨_,AE hmk⟩;obtain⟨⟨sv0,sl⟩,hs⟩:∃x,G.sg[m]? =some x:=⟨_,AE (by rw[HKs.out];exact hmk)⟩;have hslm:sl.length<1000000:=HSl.out m _ hs;have hV2:Blk w2 q 46 v.cells:=HV1.out.below xU HV1.out.lt;have hR2:w2.ownsRow Bs 98 1 (.slice A n c) n (idx.map fun i=>At (G.bk i)):=BP HR1.out xU (AB _);obtain⟨kb,kc',hkv,hkc,⟨kcs,hkB⟩,hkn⟩:=CT (i:=m) (u:=At y.h) HG2.out.krow (by rw[AV,hyk];rfl);have hK2:=(HG2.out.keys _ y hyk).1;have HCs:Hid (∀V,w2.grownBy V (some y.m)->AK V q 0 22=some v.cells/\V.cell? ⟨q,4,none⟩=some (.int .i64 (m:Int))/\V.cell? ⟨g,10,none⟩=some (.slice (some ⟨kb,0,none⟩) nk kc')/\V.cell? ⟨kb,m,none⟩=some (At y.h)):=fun V hV=>by
    obtain⟨_,_,tl,hM,_⟩:=hK2;have ho:∀t,Off w2 y.m t:=fun t=>.map hM
    refine⟨(hV2.off hV (ho _)).row 22 rfl,by rw[<-hm];exact(hV2.off hV (ho _)).cell 4,?_,?_⟩
    ·rw[HNk.out,<-hkv];exact(HG2.out.blk.off hV (ho _)).cell 10
    ·rw[(hkB.off hV (ho _)).cell,<-hkB.cell];exact hkc
   have hmn:(m:Int)<(nk:Int):=hsn;obtain⟨sig,zr⟩:=Wr (Ex y.seed 1023 (Dx v));have HSW:Hid (∀V,Ax Bs V g G->Bs<=V.heap.size->Calls prog 77 #[At y.h,.int .i64 1023,v.val] V fun e w'=>∃cs,e= .returned (.tuple #[.agg cs,.bool true])/\SwG Bs v sig true cs w'/\V.grownBy w' (some y.m)/\Ax Bs w' g G):=fun V hV hBV=>by
    rw[zr];exact(K0 (leaf:=1023) (ok:=true) (hV.keys _ y hyk).1 HVo.out ⟨fun _=>⟨hy,by omega⟩,fun _=>rfl⟩ hBV).mono fun e w' ⟨cs,a1,a2,a3,a4⟩=>⟨cs,a1,a2,a3,hV.turnM hyk a3 a4⟩
   have hEr:=(HG2.out.keys _ y hyk).2;have hkm2:y.m<w2.heap.size:=by obtain⟨_,_,tl,hM,_⟩:=hK2;exact hM.lt
   have HMv:Hid (∀V,w2.grownBy V (some y.m)->Blk V q 46 v.cells/\V.ownsRow Bs 98 1 (.slice A n c) n (idx.map fun i=>At (G.bk i))/\KSt w V):=fun V hV=>by
    obtain⟨_,_,tl,hM,_⟩:=hK2;exact⟨hV2.off hV (.map hM),BK hR2 hV (.map hM),fun b cs hB=>(HS2.out b cs hB).off hV (.map hM)⟩
   have hBY:Hid (sv0.ownBlock≠some q):=fun e=>by
    have h2:=((HG0.out.sgs _ _ hs).lt q e).2;have h3:q=w.heap.size:=HQ.out;omega
   have HY:=AA hyk;have HS:=AA hs;have hCS:=AA zr;have HMm:=AA hm;clear hV2 hR2 hkv hkc hkB hkn hK2 hyk hs zr hm hmk hEv hft HX HVl HHs hGq hsn;go_upto_region 3 with fail
   go_cut[7,8] (fun pv bv wx=>∃z cs,pv= .pointer (some ⟨z,0,none⟩)/\bv= .bool true/\Blk wx z 62 cs/\SwG Bs v sig true cs wx/\Ax Bs wx g G/\w2.heap.size<=z/\w2.grownBy wx (some y.m))
   case first=>
    refine rgD (fun V=>AK V q 0 22=some v.cells/\V.cell? ⟨q,4,none⟩=some (.int .i64 (m:Int))/\V.cell? ⟨g,10,none⟩=some (.slice (some ⟨kb,0,none⟩) nk kc')/\V.cell? ⟨kb,m,none⟩=some (At y.h)) (HCs.out _ (BZ (Al w2 y.m))) fun _=>?_
    iterate 8 (refine tkA ?_;go_frame)
    refine tkD 44 10 ?_;go_frame;refine rd2 8 15 (fun K hK=>?_) fun K hK=>?_
    ·go_simp;refine(Fz _).mono ?_;rintro en w4 ⟨rfl,hw4⟩;replace hw4:=hw4.symm;subst hw4;go_wp2_with fail
     refine hK.out _ _ (HCs.out _ (BZ (Al w2 y.m))) (fun _=>?_);clear hK K;try go_frame
     refine tkD 43 9 ?_;go_frame;refine rd2 11 15 (fun K hK=>?_) fun K hK=>?_
     ·go_simp;refine(HSW.out _ (HG2.out.below (AC _ w2).drew) zL).mono ?_;rintro en w3 ⟨cs,rfl,hsw,hg3,zB⟩;have yX:w2.grownBy w3 (some y.m):=(BZ (Al w2 y.m)).trans hg3;have HSw:=AA hsw;have HGm:=AA zB;clear hsw hg3 zB;go_wp2_with fail
      refine hK.out _ _ (HCs.out _ yX) (fun _=>?_);clear hK K;try go_frame
      refine tkD 33 12 ?_;go_frame;refine tkD 46 13 ?_;go_frame;refine tkD 47 14 ?_;go_frame;refine rd1 15 fun K hK=>?_
      go_simp;refine hK.out _ _ (HCs.out _ (Bm yX _)) (fun _=>?_);clear hK K;try go_frame
      refine rd1 16 fun K hK=>?_
      rw[if_pos (by rfl)];refine BU 62 (.tmp 7) (.tmp 46) (by rfl) w3.heap.size cs (by rfl) (by rfl) 62 BI (Blk.new w3 _ _) (by rw[HSw.out.one.1];rfl) (by rw[HSw.out.one.1];exact DT) HSw.out.one.2 (by rfl) ?_;intro w5 hR5 hg5 yi;have yj:w2.grownBy w5 (some y.m):=(Bm yX _).andThen hg5 (Wt (.inl yX.size));refine hK.out _ _ (HCs.out _ yj) (fun _=>?_);clear hK K;try go_frame
      refine tkD 8 17 ?_;go_frame;refine dnD ?_;go_wp2_with fail
      go_meet;exact⟨w3.heap.size,cs,rfl,rfl,hR5,(HSw.out.below ((AC _ w3).alloc (AB _) _)).kept (Blk.new w3 _ _) (by decide) hg5,Rv HGm.out hg5,yX.size,yj⟩
     ·go_simp;refine hK.out _ _ (HCs.out _ (BZ (Bm (Al w2 y.m) _))) (fun _=>?_);clear hK K;try go_frame
      refine rd1 11 fun K hK=>?_
      go_simp;refine(HSW.out _ (HG2.out.below ((AC _ w2).alloc (AB _) _).drew) (AG zL (by simp))).mono ?_;rintro en w3 ⟨cs,rfl,hsw,hg3,zB⟩;have yX:w2.grownBy w3 (some y.m):=(BZ (Bm (Al w2 y.m) _)).trans hg3;have HSw:=AA hsw;have HGm:=AA zB;have hZ3:Blk w3 w2.heap.size 62 BI:=Blk.kept (w:=(w2.alloc (.cells BI 62)).drew) (Blk.new w2 _ _) hg3 (by intro e;injection e with e;omega);have HZ3:=AA hZ3;clear hsw hg3 zB hZ3;go_wp2_with fail
      refine hK.out _ _ (HCs.out _ yX) (fun _=>?_);clear hK K;try go_frame
      refine tkD 33 12 ?_;go_frame;refine tkD 46 13 ?_;go_frame;refine tkD 47 14 ?_;go_frame;refine rd1 16 fun K hK=>?_
      rw[if_pos (by rfl)];refine BU 62 (.tmp 7) (.tmp 46) (by rfl) w2.heap.size cs (by rfl) (by rfl) 62 BI (HZ3.out) (by rw[HSw.out.one.1];rfl) (by rw[HSw.out.one.1];exact DT) HSw.out.one.2 (by rfl) ?_;intro w5 hR5 hg5 yi;have yj:w2.grownBy w5 (some y.m):=yX.andThen hg5 (Wt (.inl (AB _)));refine hK.out _ _ (HCs.out _ yj) (fun _=>?_);clear hK K;try go_frame
      refine tkD 8 17 ?_;go_frame;refine dnD ?_;go_wp2_with fail
      go_meet;exact⟨w2.heap.size,cs,rfl,rfl,hR5,HSw.out.kept (HZ3.out) (by decide) hg5,Ll HGm.out HZ3.out hg5 (Lm HG2.out (AB _)),AB _,yj⟩
    ·go_simp;refine hK.out _ _ (HCs.out _ (BZ (Bm (Al w2 y.m) _))) (fun _=>?_);clear hK K;try go_frame
     refine rd1 8 fun K hK=>?_
     go_simp;refine(Fz _).mono ?_;rintro en w4 ⟨rfl,hw4⟩;replace hw4:=hw4.symm;subst hw4;go_wp2_with fail
     refine hK.out _ _ (HCs.out _ (BZ (Bm (Al w2 y.m) _))) (fun _=>?_);clear hK K;try go_frame
     refine tkD 43 9 ?_;go_frame;refine rd1 11 fun K hK=>?_
     go_simp;refine(HSW.out _ (HG2.out.below ((AC _ w2).alloc (AB _) _).drew) (AG zL (by simp))).mono ?_;rintro en w3 ⟨cs,rfl,hsw,hg3,zB⟩;have yX:w2.grownBy w3 (some y.m):=(BZ (Bm (Al w2 y.m) _)).trans hg3;have HSw:=AA hsw;have HGm:=AA zB;have hZ3:Blk w3 w2.heap.size 62 BI:=Blk.kept (w:=(w2.alloc (.cells BI 62)).drew) (Blk.new w2 _ _) hg3 (by intro e;injection e with e;omega);have HZ3:=AA hZ3;clear hsw hg3 zB hZ3;go_wp2_with fail
     refine hK.out _ _ (HCs.out _ yX) (fun _=>?_);clear hK K;try go_frame
     refine tkD 33 12 ?_;go_frame;refine tkD 46 13 ?_;go_frame;refine tkD 47 14 ?_;go_frame;refine rd1 16 fun K hK=>?_
     rw[if_pos (by rfl)];refine BU 62 (.tmp 7) (.tmp 46) (by rfl) w2.heap.size cs (by rfl) (by rfl) 62 BI (HZ3.out) (by rw[HSw.out.one.1];rfl) (by rw[HSw.out.one.1];exact DT) HSw.out.one.2 (by rfl) ?_;intro w5 hR5 hg5 yi;have yj:w2.grownBy w5 (some y.m):=yX.andThen hg5 (Wt (.inl (AB _)));refine hK.out _ _ (HCs.out _ yj) (fun _=>?_);clear hK K;try go_frame
     refine tkD 8 17 ?_;go_frame;refine dnD ?_;go_wp2_with fail
     go_meet;exact⟨w2.heap.size,cs,rfl,rfl,hR5,HSw.out.kept (HZ3.out) (by decide) hg5,Ll HGm.out HZ3.out hg5 (Lm HG2.out (AB _)),AB _,yj⟩
   case rest=>
    obtain⟨z,cs,rfl,rfl,hZ,hsw,hgm,hz,hg⟩:=hcut;generalize wc=w3 at*;obtain⟨As,cS',rfl,xB⟩:=(hsw:SgG Bs v sig cs w3);obtain⟨hVq,hR3,hS3⟩:=HMv.out _ hg;have hDq:Below Bs w w3:=hGr.grown hg zL (Wt hEr);have zj:Bs<=w3.heap.size:=AG zL hg.size;obtain⟨s,hse⟩:=Wr (Sg.mk v sig As cS');have ho3:CC w3 Bs s:=by rw[hse];exact⟨HVo.out,xB,by show sig.length<=_;rw[hCS.out,KV];omega⟩
    have hZs:Blk w3 z 62 s.cells:=by rw[hse];exact hZ
    have hGs:s.vs=(v,Ex y.seed 1023 (Dx v)):=by rw[hse,<-hCS.out]
    have hsc:s.cells.size=23:=Sg.size_cells s;obtain⟨sb,sc,hsv,hBb,⟨scs,hC4⟩,hsn⟩:=CT (i:=m) (u:=sv0) hgm.srow (by rw[AV,HS.out];rfl);obtain⟨ns,hns⟩:=Wr G.sg.length;have zs:G.sv= .slice (some ⟨sb,0,none⟩) ns sc:=by rw[hns];exact hsv
    have xC:w3.ownsRow Bs 46 22 sv0 sl.length (sl.flatMap vtc):=hgm.sgs m (sv0,sl) HS.out;obtain⟨nl,hnl⟩:=Ws sl.length;rw[hnl]at hslm;obtain⟨AS,cS,hAc⟩:=BD xC;rw[hnl]at hAc;have hmns:(m:Int)<(ns:Int):=by rw[hns];have:m<G.sg.length:=hsn;omega
    have bk:∀{V:World} {b' t:Nat} {xs:Array Value},w3.grownBy V sv0.ownBlock->t≠46->Blk w3 b' t xs->Blk V b' t xs:=fun hV ht hB=>hB.offB hV (Cl xC) ht
    have HX6:Hid (∀V,w3.grownBy V sv0.ownBlock->V.cell? ⟨g,12,none⟩=some (.slice (some ⟨sb,0,none⟩) ns sc)/\V.cell? ⟨q,4,none⟩=some (.int .i64 (m:Int))/\AK V q 0 22=some v.cells):=fun V hV=>
     ⟨by rw[<-zs];exact(bk hV (by decide) hgm.blk).cell 12,by rw[<-HMm.out];exact(hVq.kept hV (fun e=>hBY.out e.symm)).cell 4,(hVq.kept hV (fun e=>hBY.out e.symm)).row 22 rfl⟩
    have HX6b:Hid (∀V V',w3.grownBy V sv0.ownBlock->V.grownBy V' (some sb)->V'.cell? ⟨g,12,none⟩=some (.slice (some ⟨sb,0,none⟩) ns sc)/\V'.cell? ⟨q,4,none⟩=some (.int .i64 (m:Int))/\AK V' q 0 22=some v.cells):=fun V V' hV hV'=>by
     have hsV:=bk hV (by decide) hC4;have hqV:=(hVq.kept hV (fun e=>hBY.out e.symm)).off hV' (.blk hsV (by decide));exact⟨by rw[<-zs];exact((bk hV (by decide) hgm.blk).off hV' (.blk hsV (by decide))).cell 12,by rw[<-HMm.out];exact hqV.cell 4,hqV.row 22 rfl⟩
    have z3:w3.drew.cell? ⟨sb,m,none⟩=some sv0:=hBb;have HCz:Hid (((w3.drew).alloc (.cells v.cells 46)).cell? ⟨sb,m,none⟩=some sv0):=by
     unfold Hid;rw[(Blk.alloc (w:=w3.drew) hC4 _).cell,<-hC4.cell];exact hBb
    have hC5:Hid (∀V V',w3.grownBy V sv0.ownBlock->V.grownBy V' (some sb)->Blk V' z 62 s.cells/\CC V' Bs s/\V'.ownsRow Bs 98 1 (.slice A n c) n (idx.map fun i=>At (G.bk i))/\KSt w V'):=fun V V' hV hV'=>by
     have hsV:=bk hV (by decide) hC4;have hT:=Cl xC;exact⟨(bk hV (by decide) hZs).off hV' (.blk hsV (by decide)),⟨ho3.1,BK (Bx ho3.2.1 hV hT (by decide)) hV' (.blk hsV (by decide)),ho3.2.2⟩,BK (Bx hR3 hV hT (by decide)) hV' (.blk hsV (by decide)),fun b cs hB=>(bk hV (by decide) (hS3 b cs hB)).off hV' (.blk hsV (by decide))⟩
    have HG3:=AA hgm;have yH:=AA xC;have HSv:=AA zs;have HNl:=AA hnl;have hCU:=AA hAc;have HSvs:=AA hGs;clear hZ xB hVq hR3 hS3 hse ho3 hZs hsv hC4 hsn hns zs hnl hBb xC bk hgm hg HCs HSW HMv hBY HG1 HG2 HV1 HR1 hGs;rw[hAc]at z3 HCz;clear hAc;have yZ:Wx w3 ((w3.drew).alloc (.cells v.cells 46)):=(AC w3.heap.size w3).drew.alloc (AB _) _;have HG7:=AA (HG3.out.below yZ);have xO:Hid (((w3.drew).alloc (.cells v.cells 46)).ownsRow Bs 46 22 sv0 nl (sl.flatMap vtc)):=by unfold Hid;rw[<-HNl.out];exact BP yH.out yZ (AB _)
    have HR7:Hid (Rd ((w3.drew).alloc (.cells v.cells 46)) ((w3.drew).alloc (.cells v.cells 46)).heap.size (some ⟨w3.heap.size,0,none⟩) (vtc v)):=by
     have hB:Blk ((w3.drew).alloc (.cells v.cells 46)) w3.heap.size 46 v.cells:=Blk.new w3.drew _ _;exact Rd.mk hB.lt (fun j u hu=>by rw[Nat.zero_add,hB.cell];simpa using hu)
    have hCV:Below Bs w ((w3.drew).alloc (.cells v.cells 46)):=hDq.trans (yZ.mono zj);have zt:Bs<=((w3.drew).alloc (.cells v.cells 46)).heap.size:=AG zj yZ.size;go_upto_region 6 with fail
    go_cut[70] (fun _ wx=>∃v1:Value,Ax Bs wx g (G.setS m v1 (sl++[v]))/\Blk wx z 62 s.cells/\CC wx Bs s/\wx.ownsRow Bs 98 1 (.slice A n c) n (idx.map fun i=>At (G.bk i))/\KSt w wx/\Below Bs w wx)
    case first=>
     refine rgD (fun V=>V.cell? ⟨g,12,none⟩=some (.slice (some ⟨sb,0,none⟩) ns sc)/\V.cell? ⟨q,4,none⟩=some (.int .i64 (m:Int))/\AK V q 0 22=some v.cells) (HX6.out _ (GP sv0)) fun _=>?_
     iterate 13 (refine tkA ?_;go_frame)
     refine tkD 64 14 ?_;go_frame;refine rd2 13 15 (fun K hK=>?_) fun K hK=>?_
     ·rw[if_pos (by rfl)];refine Ml (some 63) rfl (.slice AS nl cS) (Ec (.tmp 62) rfl sb m rfl _ (z3)) ?_;refine hK.out _ _ (HX6.out _ (GP sv0)) (fun _=>?_);clear hK K;try go_frame
      refine rd1 15 fun K hK=>?_
      rw[if_pos (by rfl)];refine EF (some 65) rfl 56 46 (.tmp 64) rfl v.cells rfl underlying56 (by kernel_rfl) (by simp) (by simp) ?_;refine hK.out _ _ (HX6.out _ (E8 sv0 _)) (fun _=>?_);clear hK K;try go_frame
      refine rd1 16 fun K hK=>?_
      rw[if_pos (by rfl)];refine II (some 66) rfl (.tmp 63) (.tmp 65) 56 rfl Bs 46 (.agg Bk.cells) 22 64 underlying56 CE rfl (by decide) sv0 nl (sl.flatMap vtc) hCU.out.symm xO.out ((w3.drew).alloc (.cells v.cells 46)).heap.size (some ⟨w3.heap.size,0,none⟩) 1 1 (vtc v) rfl rfl HR7.out (fun u hu=>BH v hu) (by omega) (by unfold maxLen;omega) zt ?_;intro v8 w8 xV hg8 zk;have hS8:=Lj HG7.out HS.out HSv.out (HNl.out) hg8 xV zk;obtain⟨A8,c8,rfl⟩:=BD xV;have HX8:Hid (w3.grownBy w8 sv0.ownBlock):=JF yZ hg8;have HS8:=AA hS8;clear hS8 xV hg8 zk;refine hK.out _ _ (HX6.out _ HX8.out) (fun _=>?_);clear hK K;try go_frame
      refine tkD 67 17 ?_;go_frame;refine rd1 18 fun K hK=>?_
      rw[if_pos (by rfl)];refine DP (.tmp 67) (.tmp 66) (by rfl) sb m (.slice A8 (nl+1) c8) (by rfl) (by rfl) HS8.out.2.1 Hu rfl (by rfl) ?_;refine hK.out _ _ (HX6b.out _ _ HX8.out HS8.out.1.2) (fun _=>?_);clear hK K;try go_frame
      refine dnD ?_;have hBd:Below Bs w w8:=hCV.grown HS8.out.2.2.1 zt HS8.out.2.2.2;have zI:Bs<=sb:=by
       have h1:=HG7.out.srow;rw[HSv.out]at h1;exact(h1.lt sb rfl).1
      have hk8:=hC5.out _ _ HX8.out HS8.out.1.2;go_wp2_with fail
      go_meet;exact⟨.slice A8 (nl+1) c8,HS8.out.1.1,hk8.1,hk8.2.1,hk8.2.2.1,hk8.2.2.2,hBd.setCell (p:=⟨sb,m,none⟩) zI _⟩
     ·rw[if_pos (by rfl)];refine EF (some 65) rfl 56 46 (.tmp 64) rfl v.cells rfl underlying56 (by kernel_rfl) (by simp) (by simp) ?_;refine hK.out _ _ (HX6.out _ (E8 sv0 _)) (fun _=>?_);clear hK K;try go_frame
      refine rd1 13 fun K hK=>?_
      rw[if_pos (by rfl)];refine Ml (some 63) rfl (.slice AS nl cS) (Ec (.tmp 62) rfl sb m rfl _ (HCz.out)) ?_;refine hK.out _ _ (HX6.out _ (E8 sv0 _)) (fun _=>?_);clear hK K;try go_frame
      refine rd1 16 fun K hK=>?_
      rw[if_pos (by rfl)];refine II (some 66) rfl (.tmp 63) (.tmp 65) 56 rfl Bs 46 (.agg Bk.cells) 22 64 underlying56 CE rfl (by decide) sv0 nl (sl.flatMap vtc) hCU.out.symm xO.out ((w3.drew).alloc (.cells v.cells 46)).heap.size (some ⟨w3.heap.size,0,none⟩) 1 1 (vtc v) rfl rfl HR7.out (fun u hu=>BH v hu) (by omega) (by unfold maxLen;omega) zt ?_;intro v8 w8 xV hg8 zk;have hS8:=Lj HG7.out HS.out HSv.out (HNl.out) hg8 xV zk;obtain⟨A8,c8,rfl⟩:=BD xV;have HX8:Hid (w3.grownBy w8 sv0.ownBlock):=JF yZ hg8;have HS8:=AA hS8;clear hS8 xV hg8 zk;refine hK.out _ _ (HX6.out _ HX8.out) (fun _=>?_);clear hK K;try go_frame
      refine tkD 67 17 ?_;go_frame;refine rd1 18 fun K hK=>?_
      rw[if_pos (by rfl)];refine DP (.tmp 67) (.tmp 66) (by rfl) sb m (.slice A8 (nl+1) c8) (by rfl) (by rfl) HS8.out.2.1 Hu rfl (by rfl) ?_;refine hK.out _ _ (HX6b.out _ _ HX8.out HS8.out.1.2) (fun _=>?_);clear hK K;try go_frame
      refine dnD ?_;have hBd:Below Bs w w8:=hCV.grown HS8.out.2.2.1 zt HS8.out.2.2.2;have zI:Bs<=sb:=by
       have h1:=HG7.out.srow;rw[HSv.out]at h1;exact(h1.lt sb rfl).1
      have hk8:=hC5.out _ _ HX8.out HS8.out.1.2;go_wp2_with fail
      go_meet;exact⟨.slice A8 (nl+1) c8,HS8.out.1.1,hk8.1,hk8.2.1,hk8.2.2.1,hk8.2.2.2,hBd.setCell (p:=⟨sb,m,none⟩) zI _⟩
    case rest=>
     obtain⟨v1,hG5,hZ5,hs5,hR5,hS5,hEw⟩:=hcut;generalize wc=w5 at*;obtain⟨G5,hG5e⟩:=Wr (G.setS m v1 (sl++[v]));rw[<-hG5e]at hG5;have hbk:∀i,G5.bk i=G.bk i:=fun i=>by rw[hG5e];rfl
     have HP:Hid (∀k i,idx[k]? =some i->∃b P,G5.ps[i]? =some (b,P)/\G.bk i=b/\P.L.length<=25000):=fun k i hk=>by
      obtain⟨⟨b,P⟩,hp⟩:∃x,G.ps[i]? =some x:=⟨_,AE (HLt.out i (AN hk))⟩;exact⟨b,P,by rw[hG5e];exact hp,GmS.bk_of hp,HSm.out i b P hp⟩
     have HA:Hid (∀k i,idx[k]? =some i->∃ab,A=some ⟨ab,0,none⟩/\∀V:World,V.ownsRow Bs 98 1 (.slice A n c) n (idx.map fun i=>At (G.bk i))->V.cell? ⟨ab,k,none⟩=some (At (G.bk i))):=fun k i hk=>by
      have key:∀V:World,V.ownsRow Bs 98 1 (.slice A n c) n (idx.map fun i=>At (G.bk i))->∃ab,A=some ⟨ab,0,none⟩/\V.cell? ⟨ab,k,none⟩=some (At (G.bk i)):=fun V hV=>by
       obtain⟨ab,ac,hv,xH,_,_⟩:=CT (i:=k) (u:=At (G.bk i)) hV (by rw[AV,hk];rfl);injection hv with hv _ _
       exact⟨ab,hv,xH⟩
      obtain⟨ab,e,_⟩:=key w5 hR5;refine⟨ab,e,fun V hV=>?_⟩;obtain⟨ab',e',hc⟩:=key V hV;rw[e]at e';injection e' with e'
      injection e' with e'
      rw[e'];exact hc
     have hBh:Bs<=w5.heap.size:=AG hBs hEw.size;have HG5:=AA hG5;have HZ5:=AA hZ5;have HS5:=AA hs5;have HK5:=AA hS5;have HR5:=AA hR5;have HG5e:=AA hG5e;clear hG5 hZ5 hs5 hR5 hS5 hG5e hbk HG3 yH HG7 xO HR7 HX6 HX6b HCz hC5 z3 hCV zt yZ hCU;go_wp2
     go_loopw [70] (fun iv wr=>∃(k:Nat) (G':GmS),iv= .int .i64 (k:Int)/\k<=n/\Ax Bs wr g G'/\Ed [s.vs] idx k G5 G'/\wr.ownsRow Bs 98 1 (.slice A n c) n (idx.map fun i=>At (G.bk i))/\Blk wr z 62 s.cells/\CC wr Bs s/\KSt w wr/\Below Bs w wr) (fun iv _=>n-(intOf iv).toNat)
     case atStart=>exact⟨0,G5,rfl,Nat.zero_le _,HG5.out,Ed.zero _ idx G5,HR5.out,HZ5.out,HS5.out,HK5.out,hEw⟩
     case round=>
      clear HG5 HR5 HZ5 HS5 HK5 hEw hBh;obtain⟨k,G4,rfl,hkn,hG4,hT4,hR4,hZ4,hs4,hK4,hb4⟩:=hrel;by_cases hk:k<n
      ·have dk:=Wu (show k<n by omega)
       obtain⟨i,hi⟩:∃i,idx[k]? =some i:=⟨_,AE (by rw[HN.out];exact hk)⟩;obtain⟨b,P,hp,hbk,hPl⟩:=HP.out k i hi;obtain⟨ab,rfl,hc⟩:=HA.out k i hi;have x1:wr.cell? ⟨ab,k,none⟩=some (At b):=by rw[<-hbk];exact hc wr hR4
       have hp4:G4.ps[i]? =some (b,P):=by
        obtain⟨⟨b4,P4⟩,h4⟩:∃x,G4.ps[i]? =some x:=⟨_,AE (by
         obtain⟨ps',rfl,hl,_⟩:=hT4;show i<ps'.length;rw[hl];exact(AF.1 hp).1)⟩
        have:=hT4.old HNd.out hi h4;rw[hp]at this;rw[this]at*;exact h4
       have yS:Bs<=wr.heap.size:=AG hBs hb4.size;have hPb:=(hG4.prs _ _ hp4).1.blk;have hBa:=(hG4.prs _ _ hp4).2;obtain⟨w6,hw6⟩:=Wr (wr.drew.alloc (.cells s.cells 62));have yB:Wx wr w6:=by rw[hw6];exact(AC wr.heap.size wr).drew.alloc (AB _) _
       have hr6:Rd w6 w6.heap.size (some ⟨wr.heap.size,0,none⟩) ([s].flatMap sgc):=by
        have hB6:Blk w6 wr.heap.size 62 s.cells:=by rw[hw6];exact Blk.new wr.drew _ _
        have:=Rd.of_blk hB6 0 23;rw[List.drop_zero,AT (by rw[Array.length_toList,hsc];exact AB _)]at this;simpa using this
       have hBC:=AA (Li ((hG4.below yB).prs _ _ hp4).1 (AG yS yB.size) (some ⟨wr.heap.size,0,none⟩) 1 1 [s] rfl hr6 (fun s' hs'=>by rw[AM.1 hs'];exact(hs4.below yB (AB _)).ok) (by have:P.L.length<=25000:=hPl;show P.L.length+1<=_;omega));have hGt:Hid (∀V,w6.grownBy V (some b)->AK V z 0 23=some s.cells):=fun V hV=>(((hZ4.below yB hZ4.lt).off hV (.blk (hPb.below yB hPb.lt) (by decide))).row 23 (Sg.size_cells _))
       have x2:AK wr.drew z 0 23=some s.cells:=hZ4.row 23 (Sg.size_cells _);have HI:=AA hi;have HG4:=AA hG4;have HT4:=AA hT4;have HR4:=AA hR4;have HZ4:=AA hZ4;have HS4:=AA hs4;have HK4:=AA hK4;have HP4:=AA hp4;have HPb:=AA hPb;have HW6:=AA hw6;clear hi hp hbk hPl hc hG4 hT4 hR4 hZ4 hs4 hK4 hp4 hPb hw6 hr6;go_upto_region 10 with fail
       refine rgD (fun V=>AK V z 0 23=some s.cells) (x2) fun _=>?_
       iterate 4 (refine tkA ?_;go_frame)
       refine rd1 4 fun K hK=>?_
       rw[if_pos (by rfl)];refine EF (some 78) rfl 50 62 (.tmp 77) rfl s.cells rfl underlying50 (by rw[hsc];kernel_rfl) (by rw[hsc];decide) (by rw[hsc];decide) ?_;rw[<-HW6.out];refine hK.out _ _ (hGt.out w6 (Br (AC w6.heap.size w6))) (fun _=>?_);clear hK K;try go_frame
       refine rd1 5 fun K hK=>?_
       go_simp;refine hBC.out.mono ?_;rintro en w7 ⟨v7,L7,rfl,hP7,hL7,hg7⟩;go_wp2_with fail
       refine hK.out _ _ (hGt.out w7 hg7) (fun _=>?_);clear hK K;try go_frame
       refine dnD ?_;have hGu:wr.grownBy w7 (some b):=(Br yB).trans hg7;have hC6:=HPb.out.below yB HPb.out.lt;have HG7:=AA ((HG4.out.below yB).setP HP4.out hg7 hP7);have HT7:=AA (HT4.out.turn (v:=v7) (L:=L7) HNd.out HI.out HP4.out (by rw[hL7,Ad];rfl));have HR7:=AA (BK (BP HR4.out yB (AB _)) hg7 (.blk hC6 (by decide)));have HZ7:=AA ((HZ4.out.below yB HZ4.out.lt).off hg7 (.blk hC6 (by decide)));have HS7:=AA ((HS4.out.below yB (AB _)).off hg7 (.blk hC6 (by decide)));have HK7:Hid (KSt w w7):=fun b' cs hB=>((HK4.out b' cs hB).below yB (HK4.out b' cs hB).lt).off hg7 (.blk hC6 (by decide))
       have hb7:Below Bs w w7:=hb4.grown hGu yS (Wt hBa);clear hP7 hL7 hg7 hBC hGu hC6;go_wp2;go_roundw
       case rel=>exact⟨k+1,_,by go_num,by omega,HG7.out,HT7.out,HR7.out,HZ7.out,HS7.out,HK7.out,hb7⟩
       case measure=>simp[intOf];omega
      ·have dk:=Wv (show n<=k by omega)
       have e:k=n:=by omega
       have HT5:Hid (Ed [s.vs] idx idx.length G5 G4):=by rw[HN.out,<-e];exact hT4
       have HG5:=AA hG4;have HK9:=AA hK4;clear hG4 hT4 hR4 hZ4 hs4 hK4 e;go_wp2;go_ret;refine⟨hb4,HK9.out,.inr ⟨HRr.out.symm,rfl,G4,HG5.out,m,y,sv0,sl,v1,HMm.out,HY.out,HS.out,?_⟩⟩;rw[<-HG5e.out,<-HSvs.out];exact HT5.out
end
end Go.Proofs.YtadllffeoibelaaGreat
