/-
  What these parts of the proof come to, functions walked and plain laws: GmNew. No condition.
-/
import Derived.Test.YtadllffeoibelaaGreatS44
import Derived.Test.YtadllffeoibelaaGreatS42
import Derived.Test.YtadllffeoibelaaGreatS12
import Derived.Test.YtadllffeoibelaaGreatS39
import Derived.Test.YtadllffeoibelaaGreatS27
import Derived.Deep.DeepCutAuto
import Derived.Deep.RegionLawGrows
import Derived.Laws.OwnMore
import Derived.StillTailTactics
import Derived.Test.YtadllffeoibelaaGreatS6
namespace Go.Proofs.YtadllffeoibelaaGreat
set_option maxRecDepth 100000
set_option maxHeartbeats 32000000
set_option linter.all false
section
open Go.RowKit
attribute [local go_sem ↓] Go.wp_at_zero Go.wp_at_succ An Au Av Aw
attribute [local go_sem] BD BH BI BJ AN AW AQ
structure Cfg where
 n:Int
 T:Int
 L:Int
 seed:Nm
abbrev Cfg.cells(c:Cfg):Array Value:=#[I c.n,I c.T,I c.L,B c.seed.b0,B c.seed.b1,B c.seed.b2,B c.seed.b3,B c.seed.b4,B c.seed.b5,B c.seed.b6,B c.seed.b7]
abbrev Cfg.val(c:Cfg):Value:=.agg c.cells
abbrev Bz:Value:=.slice none 0 0
abbrev Ec(x:Nat×Nm):PrS:=⟨Bz,[],x.1,0,0,x.2,Bz,[],false⟩
def J9(s:Nm)(m:Nat):Nm:=De (66::(s.bytes++[UInt8.ofNat m]))
def Gi(s:Nm)(p:Nat):Nm:=De (68::(s.bytes++[UInt8.ofNat p]))
def L5(s:Nm):Nm:=De (67::s.bytes)
def msF(s:Nm)(ms:List Nat)(p:Nat):List (Nat×Nm):=ms.mapIdx fun k m=>(m,if k<p then Gi s k else Nm.zero)
theorem L6(s:Nm)(ms:List Nat)(m:Nat):msF s (ms++[m]) 0=msF s ms 0++[(m,Nm.zero)]:=by
 unfold msF;rw[List.mapIdx_append];simp
theorem SA(s:Nm)(ms:List Nat)(p m:Nat)(h:ms[p]? =some m):(msF s ms p).set p (m,Gi s p)=msF s ms (p+1):=by
 unfold msF;apply List.ext_getElem?;intro k;rw[List.getElem?_set,List.length_mapIdx,List.getElem?_mapIdx,List.getElem?_mapIdx];have hl:=(AG.1 h).1;by_cases hk:p=k
 ·subst hk;rw[if_pos rfl,if_pos hl,h];simp
 ·rw[if_neg hk];cases ms[k]? with
  |none=>rfl
  |some x=>
   simp only[Option.map_some];by_cases h1:k<p
   ·rw[if_pos h1,if_pos (by omega)]
   ·rw[if_neg h1,if_neg (by omega)]
theorem Ff(s:Nm)(ms:List Nat)(p:Nat):(msF s ms p).length=ms.length:=by unfold msF;exact List.length_mapIdx
theorem Ny{s:Nm}{ms:List Nat}{p k:Nat}{x:Nat×Nm}(h:(msF s ms p)[k]? =some x):ms[k]? =some x.1∧x.2=(if k<p then Gi s k else Nm.zero):=by
 unfold msF at h;rw[List.getElem?_mapIdx]at h;cases hm:ms[k]? with
 |none=>rw[hm]at h;cases h
 |some m=>
  rw[hm]at h;simp only[Option.map_some]at h;injection h with h
  subst h;exact⟨rfl,rfl⟩
theorem Do:(Tryz.prog.info? 112).map (fun i=>(i.zero,i.size,i.bytes))=some (some (.pointer none),1,8):=by kernel_rfl
theorem KA:(Tryz.prog.info? 98).map (fun i=>(i.zero,i.size,i.bytes))=some (some (.pointer none),1,8):=by kernel_rfl
theorem Qq:(Tryz.prog.info? 56).map (fun i=>(i.zero,i.size,i.bytes))=some (some (.slice none 0 0),1,24):=by kernel_rfl
theorem Dp:(Tryz.prog.info? 90).map (·.size)=some 1:=by kernel_rfl
theorem Qr:∀n,n≤7→(madeCells (Value.slice none 0 0).cells n).toList=List.replicate n (.slice none 0 0):=fun n h=>by
 rcases(by omega:n=0∨n=1∨n=2∨n=3∨n=4∨n=5∨n=6∨n=7)with rfl|rfl|rfl|rfl|rfl|rfl|rfl|rfl <;> kernel_rfl
theorem UV(n:Nat)(hn:n≤7)(W:World):(Instr.makeSlice 71 (.int .i64 (n:Int)) (.int .i64 (n:Int))).run Tryz.prog W= .ok (.slice (some ⟨W.heap.size,0,none⟩) n n) (W.alloc (.cells (madeCells (Value.slice none 0 0).cells n) 56)):=by
 obtain⟨i0,hi,hz0,hz1,hz2⟩:=info_parts Qq;have:=run_makeSlice (P:=Tryz.prog) (w:=W) 71 56 i0 (.slice none 0 0) Tryz.underlying71 hi hz0 .i64 .i64 (n:Int) (n:Int) (by omega) (by omega) (by rw[hz1];simp;omega) (by rw[hz2];omega) (by omega);rw[this,hz1];simp
theorem ID{o:Oper}{a:Act}(M:Int)(p:Nm)(A:Option Addr)(n c:Nat)(x0 x2 x5:Operand)(ho:o.op= .build 93 #[(0,x0),(2,x2),(5,x5)])(h0:a.eval x0= .int .i64 M)(h2:a.eval x2= .agg p.cells)(h5:a.eval x5= .slice A n c)(w:World):(execOp a.eval o).run Tryz.prog w= .ok (.value (.agg (GmS.cells ⟨M,0,p,Bz,Bz,.slice A n c,[],[],[]⟩))) w:=by
 unfold execOp;rw[ho];simp only[List.map_toArray,List.map_cons,List.map_nil,h0,h2,h5];go_simp
theorem L9{o:Oper}{a:Act}(x:Operand)(i:Nat)(ho:o.op= .convert 3 5 x)(hx:a.eval x= .int .i64 (i:Int))(hi:i≤255)(w:World):(execOp a.eval o).run Tryz.prog w= .ok (.value (.int .u8 (i:Int))) w:=by
 have hw:IntKind.u8.wrap (i:Int)=(i:Int):=by rw[IntKind.wrap_u8];omega
 unfold execOp;rw[ho];simp only[hx];go_simp
theorem Dq{o:Oper}{a:Act}{w:World}(x:Operand)(ho:o.op= .load 90 x)(g i:Nat)(hx:a.eval x= .pointer (some ⟨g,i,none⟩))(u:Value)(hc:w.cell? ⟨g,i,none⟩=some u):(execOp a.eval o).run Tryz.prog w= .ok (.value u) w:=by
 unfold execOp;rw[ho];simp only[hx];go_simp
abbrev SB(M T L:Int):Int:=bits .andNot .i64 M (bits .or .i64 T L)
structure M5 (n:Nat)(T L:Int)(s:Nm)(G:GmS):Prop where
 M:G.M=((2^n:Nat):Int)-1
 hon:G.hon=SB G.M T L
 par:G.par=L5 s
 ks:G.ks.map (·.seed)=(List.range n).map (J9 s)
 ps:∃ms:List Nat,ms=List.range n++CH (xOf (bits .and .i64 G.M T)) 10∧G.ps.map (·.2)=(msF s ms ms.length).map Ec
 sg:G.sg=List.replicate n (Bz,[])
def Qs(Bs g q:Nat)(C:Cfg)(M hon:Int)(par:Nm)(sv:Value)(n:Nat)(ksd:List Nm)(ms:List (Nat×Nm))(w wr:World):Prop:=
 ∃(kv pv:Value) (ks:List KyS) (ps:List (Nat×PrS)),A9 Bs wr g ⟨M,hon,par,kv,pv,sv,ks,ps,List.replicate n (Bz,[])⟩∧ks.map (·.seed)=ksd∧ps.map (·.2)=ms.map Ec∧Blk wr q 26 C.cells∧Below Bs w wr
theorem Nz{Bs b:Nat}{w:World}{x:Nat×Nm}(h:Blk w b 97 (Ec x).cells):Cu Bs w b (Ec x):=
 ⟨h,⟨by simp,.inl ⟨rfl,rfl⟩⟩,fun s hs=>(by cases hs),⟨by simp,.inl ⟨rfl,rfl⟩⟩⟩
theorem A9.ks_lt{Bs g:Nat}{w:World}{G:GmS}(h:A9 Bs w g G):∀k∈G.ks,k.m<w.heap.size:=fun k hk=>by
 obtain⟨i,hi⟩:=List.getElem?_of_mem hk;obtain⟨_,_,tl,hM,_⟩:=(h.keys i k hi).1;exact hM.lt
theorem A9.ps_lt{Bs g:Nat}{w:World}{G:GmS}(h:A9 Bs w g G):∀p∈G.ps,p.1<w.heap.size:=fun p hp=>by
 obtain⟨i,hi⟩:=List.getElem?_of_mem hp;exact(h.prs i p hi).1.blk.lt
theorem Cu.payd{Bs b:Nat}{w w':World}{P:PrS}{s:Nm}(h:Cu Bs w b P)(hw:w'=w.setCells b 4 s.cells.toList):Cu Bs w' b {P with pay:=s}∧w.grownBy w' (some b):=by
 obtain⟨_,hg,_⟩:=Cc b 97 s.cells.toList 4 w P.cells h.blk;rw[←hw]at hg;refine⟨⟨?_,BO h.row hg (.blk h.blk (by decide)),fun x hx=>(h.sgs x hx).off hg (.blk h.blk (by decide)),BO h.dec hg (.blk h.blk (by decide))⟩,hg⟩;rw[hw];have h1:=(((((((h.blk.put 4 (B s.b0)).put 5 (B s.b1)).put 6 (B s.b2)).put 7 (B s.b3)).put 8 (B s.b4)).put 9 (B s.b5)).put 10 (B s.b6)).put 11 (B s.b7);simp only[World.setCells];simpa using h1
theorem SC{w:World}{b:Nat}{P:PrS}(h:Blk w b 97 P.cells):w.there b 4 8:=fun j hj=>⟨by
 rw[h.cell];rcases(by omega:j=0∨j=1∨j=2∨j=3∨j=4∨j=5∨j=6∨j=7)with rfl|rfl|rfl|rfl|rfl|rfl|rfl|rfl <;> rfl,h.frozen _⟩
theorem Kn{op:Oper}{a:Act}{w:World}{K:Act→World→Prop}{Q:Exit→Act→World→Prop}(x y:Operand)(ho:op.op= .store 24 x y)(b:Nat)(P:PrS)(s:Nm)(hx:a.eval x= .pointer (some ⟨b,4,none⟩))(hy:a.eval y= .agg s.cells)(hB:Blk w b 97 P.cells)(hd:op.dst=none)(h:K a (w.setCells b 4 s.cells.toList)):op.wp Tryz.prog a w K Q:=by
 refine wp_store_mid 24 x y ho b 4 s.cells hx hy (SC hB) Ap (Array.all_eq_true_iff_forall_mem.2 fun v hv=>FA s (by simpa using hv)) ?_;rw[hd];exact h
theorem Rd.seed{w:World}{q:Nat}{C:Cfg}(h:Blk w q 26 C.cells):Rd w w.heap.size (some ⟨q,3,none⟩) (C.seed.bytes.map B):=Rd.of_blk h 3 8
theorem Fg{w:World}{q:Nat}{C:Cfg}(h:Blk w q 26 C.cells):∀b,some (⟨q,3,none⟩:Addr)=some b→∀j u,(C.seed.bytes.map B)[j]? =some u→w.cell? (b.add j)=some u:=fun b hb j u hu=>by
 injection hb with hb
 subst hb;rw[Addr.add_mid,h.cell];have hj:j<8:=by
  have:=(AG.1 hu).1;simpa[Nm.bytes]using this
 rcases(by omega:j=0∨j=1∨j=2∨j=3∨j=4∨j=5∨j=6∨j=7)with rfl|rfl|rfl|rfl|rfl|rfl|rfl|rfl <;> exact hu
theorem N0(n:Nat)(hn:1≤n∧n≤7)(T L:Int)(s:Nm)(w:World):Calls Tryz.prog 27 #[(Cfg.mk (n:Int) T L s).val] w fun e w'=>∃g G,e= .returned (.tuple #[Am g,.int .i64 0])∧Below w.heap.size w w'∧A9 w.heap.size w' g G∧M5 n T L s G:=by
 obtain⟨C,hC⟩:∃C,C=Cfg.mk (n:Int) T L s:=⟨_,rfl⟩;rw[←hC];have hCn:C.n=(n:Int):=by rw[hC]
 have hCT:C.T=T:=by rw[hC]
 have hCL:C.L=L:=by rw[hC]
 have hCs:C.seed=s:=by rw[hC]
 obtain⟨Bs,hBs⟩:∃Bs,Bs=w.heap.size:=⟨_,rfl⟩;obtain⟨w1,hw1⟩:∃w1,w1=w.alloc (.cells C.cells 26):=⟨_,rfl⟩;have hb1:Below Bs w w1:=by rw[hw1];exact(AC _ _).alloc (by omega) _
 have hBs1:Bs≤w1.heap.size:=by rw[hBs];exact hb1.size
 obtain⟨q,hq⟩:∃q,q=w.heap.size:=⟨_,rfl⟩;have hqB:Bs≤q:=by omega
 have hQ1:Blk w1 q 26 C.cells:=by rw[hw1,hq];exact Blk.new w _ _
 have y0:w1.cell? ⟨q,0,none⟩=some (.int .i64 (n:Int)):=by rw[←hCn];exact hQ1.cell 0
 have d1:decide ((n:Int)<1)=false:=by simp;omega
 have d2:decide (7<(n:Int))=false:=by simp;omega
 obtain⟨M,hM⟩:∃M:Int,M=((2^n:Nat):Int)-1:=⟨_,rfl⟩;have hM7:0≤M∧M≤127:=by
  rw[hM];rcases(by omega:n=1∨n=2∨n=3∨n=4∨n=5∨n=6∨n=7)with rfl|rfl|rfl|rfl|rfl|rfl|rfl <;> decide
 have hwm:IntKind.i64.wrap ((2:Int)^n-1)=M:=by
  have e:(2:Int)^n=((2^n:Nat):Int):=by simp
  rw[e,←hM,IntKind.wrap_i64];omega
 have hmk:=UV n hn.2;obtain⟨mc,hmc⟩:∃mc,mc=madeCells (Value.slice none 0 0).cells n:=⟨_,rfl⟩;rw[←hmc]at hmk;have hmcs:mc.size=n:=by rw[hmc];exact size_madeCells _ _
 have hmcl:mc.toList=List.replicate n (.slice none 0 0):=by rw[hmc];exact Qr n hn.2
 obtain⟨par,hpar⟩:∃par,L5 C.seed=par:=⟨_,rfl⟩;have HTg:Hid (∀V,Blk V q 26 C.cells→Calls Tryz.prog 50 #[.int .u8 67,.slice (some ⟨q,3,none⟩) 8 8] V (BT V par)):=fun V hV=>B8 67 _ 8 C.seed.bytes par V (Rd.seed hV) (by simp[Nm.bytes]) hpar
 have HQ:Hid (∀V,Below w1.heap.size w1 V→Blk V q 26 C.cells):=fun V hV=>hQ1.below hV hQ1.lt
 have HX:Hid (∀V,Below w1.heap.size w1 V→V.cell? ⟨q,0,none⟩=some (.int .i64 (n:Int))):=fun V hV=>by rw[←hCn];exact(hQ1.below hV hQ1.lt).cell 0
 have HCT:=AA hCT;have HCn:=AA hCn;have HCL:=AA hCL;have HCs:=AA hCs;have HW1:=AA hw1;have HQq:=AA hq;have HM:=AA hM;have HMc:=AA (And.intro hmcs hmcl);have HPar:=AA hpar;have HBs:=AA hBs;have hn1:=hn.1;have hn7:=hn.2;have hqw1:q<w1.heap.size:=hQ1.lt;clear hC hCn hCT hCL hCs hw1 hq hM hmcs hmcl hmc hpar hBs hn;go_enter Tryz.func27,Tryz.ntmps27;go_upto_region 1 with fail
 simp only[←HW1.out,←HQq.out];go_upto_region 3 with fail
 go_cut[4] (fun gv wx=>∃g sb,gv= .pointer (some ⟨g,0,none⟩)∧Blk wx g 93 (GmS.cells ⟨M,0,par,Bz,Bz,.slice (some ⟨sb,0,none⟩) n n,[],[],[]⟩)∧Blk wx sb 56 mc∧Bs≤g∧Bs≤sb∧Below w1.heap.size w1 wx)
 case first=>
  refine rgD (fun V=>V.cell? ⟨q,0,none⟩=some (.int .i64 (n:Int))) (HX.out _ (AC w1.heap.size w1).drew) fun hHeld=>?_
  refine tkD 17 0 ?_;go_frame;refine tkD 18 1 ?_;go_frame;refine Az (some 19) (i:=2) (v:=(.int .i64 ((2^n:Nat):Int))) rfl rfl (by kernel_rfl) (by kernel_rfl) (by kernel_rfl) (fun _ _ _ h=>h) (by rfl) (fun wq _=>GW (.tmp 18) n rfl rfl (by omega) wq) (by assumption) ?_;go_frame;refine tkD 20 3 ?_;go_frame;refine tkD 21 4 ?_;go_frame;refine tkD 22 5 ?_;go_frame;refine tkD 24 7 ?_;go_frame;refine tkD 25 8 ?_;go_frame;refine rd2 6 9 (fun K hK=>?_) fun K hK=>?_
  ·go_simp;refine(HTg.out _ (HQ.out _ (AC w1.heap.size w1).drew)).mono ?_;rintro en w3 ⟨rfl,hb3⟩;have hb13:Below w1.heap.size w1 w3:=((AC w1.heap.size w1).drew).trans (hb3.mono (Below.size (AC w1.heap.size w1).drew));go_wp2_with fail
   refine hK.out _ _ (HX.out _ hb13) (fun hHeld=>?_);clear hK K;try go_frame
   refine rd1 9 fun K hK=>?_
   go_simp;refine hK.out _ _ (HX.out _ (hb13.alloc hb13.size _)) (fun hHeld=>?_);clear hK K;try go_frame
   have hS4:Blk (w3.alloc (.cells mc 56)) w3.heap.size 56 mc:=Blk.new w3 _ _;have hb14:Below w1.heap.size w1 (w3.alloc (.cells mc 56)):=hb13.alloc hb13.size _;have hsbB:Bs≤w3.heap.size:=AF hBs1 hb13.size;generalize w3.alloc (.cells mc 56)=w4 at*;refine Az (some 27) (i:=10) (v:=(.agg (GmS.cells ⟨M,0,par,Bz,Bz,.slice (some ⟨w3.heap.size,0,none⟩) n n,[],[],[]⟩))) rfl rfl (by kernel_rfl) (by kernel_rfl) (by kernel_rfl) (fun _ _ _ h=>h) (by rfl) (fun wq _=>ID M par (some ⟨w3.heap.size,0,none⟩) n n (.tmp 20) (.tmp 23) (.tmp 26) rfl rfl rfl rfl wq) (by assumption) ?_;go_frame;refine rd1 11 fun K hK=>?_
   go_simp;refine hK.out _ _ (HX.out _ (hb14.alloc hb14.size _)) (fun hHeld=>?_);clear hK K;try go_frame
   refine tkD 4 12 ?_;go_frame;refine dnD ?_;go_wp2_with fail
   go_meet;refine⟨_,_,rfl,Blk.new _ _ _,hS4.alloc _,?_,?_,hb14.alloc hb14.size _⟩
   ·exact AF hBs1 hb14.size
   ·exact hsbB
  ·go_simp;refine hK.out _ _ (HX.out _ ((AC w1.heap.size w1).alloc (AB _) _).drew) (fun hHeld=>?_);clear hK K;try go_frame
   refine rd1 6 fun K hK=>?_
   go_simp;refine(HTg.out _ (HQ.out _ ((AC w1.heap.size w1).alloc (AB _) _).drew)).mono ?_;rintro en w4 ⟨rfl,hb3⟩;have hb14:Below w1.heap.size w1 w4:=(((AC w1.heap.size w1).alloc (AB _) _).drew).trans (hb3.mono (Below.size ((AC w1.heap.size w1).alloc (AB _) _).drew));have hS4:Blk w4 w1.heap.size 56 mc:=Blk.below (w:=(w1.alloc (.cells mc 56)).drew) (Blk.new w1 _ _) hb3 (by simp);have hsbB:=hBs1;go_wp2_with fail
   refine hK.out _ _ (HX.out _ hb14) (fun hHeld=>?_);clear hK K;try go_frame
   refine Az (some 27) (i:=10) (v:=(.agg (GmS.cells ⟨M,0,par,Bz,Bz,.slice (some ⟨w1.heap.size,0,none⟩) n n,[],[],[]⟩))) rfl rfl (by kernel_rfl) (by kernel_rfl) (by kernel_rfl) (fun _ _ _ h=>h) (by rfl) (fun wq _=>ID M par (some ⟨w1.heap.size,0,none⟩) n n (.tmp 20) (.tmp 23) (.tmp 26) rfl rfl rfl rfl wq) (by assumption) ?_;go_frame;refine rd1 11 fun K hK=>?_
   go_simp;refine hK.out _ _ (HX.out _ (hb14.alloc hb14.size _)) (fun hHeld=>?_);clear hK K;try go_frame
   refine tkD 4 12 ?_;go_frame;refine dnD ?_;go_wp2_with fail
   go_meet;refine⟨_,_,rfl,Blk.new _ _ _,hS4.alloc _,?_,?_,hb14.alloc hb14.size _⟩
   ·exact AF hBs1 hb14.size
   ·exact hsbB
 case rest=>
  obtain⟨g,sb,rfl,hG3,hS3,hgB,hsB,hb13⟩:=hcut;generalize wc=w3 at*;have hQ3:=HQ.out _ hb13;have y1:w3.cell? ⟨g,0,none⟩=some (.int .i64 M):=hG3.cell 0;have y2:w3.cell? ⟨q,1,none⟩=some (.int .i64 T):=by rw[←HCT.out];exact hQ3.cell 1
  have y3:w3.cell? ⟨q,2,none⟩=some (.int .i64 L):=by rw[←HCL.out];exact hQ3.cell 2
  have y4:w3.cell? ⟨g,1,none⟩=some (.int .i64 0):=hG3.cell 1;have y5:w3.frozen? ⟨g,1,none⟩=false:=hG3.frozen 1;have HG3:=AA hG3;have HS3:=AA hS3;have HQ3:=AA hQ3;have hb03:Below Bs w w3:=hb1.trans (hb13.mono hBs1);have hBs3:Bs≤w3.heap.size:=AF hBs1 hb13.size;clear hG3 hS3 hQ3 hmk HTg HX y0;go_upto_region 4 with fail
  go_still_tail 13,(by kernel_rfl);change wpList _ _ _ _ _ w3.drew;go_upto_region 5 with fail
  obtain⟨hon,hhon⟩:∃hon,hon=SB M T L:=⟨_,rfl⟩;obtain⟨w4',hw4⟩:∃w4,w4=w3.setCell ⟨g,1,none⟩ (.int .i64 (SB M T L)):=⟨_,rfl⟩;rw[←hw4];rw[←hhon]at hw4;have hg4:w3.grownBy w4' (some g):=by rw[hw4];exact Bi (p:=⟨g,1,none⟩) (Ai _ g) rfl _
  have hG4':A9 Bs w4' g ⟨M,hon,par,Bz,Bz,.slice (some ⟨sb,0,none⟩) n n,[],[],List.replicate n (Bz,[])⟩:=by
   have hB:Blk w3 g 93 _:=HG3.out;have hSb:Blk w4' sb 56 mc:=HS3.out.off hg4 (.blk hB (by decide));have nilR:∀{e size:Nat},w4'.ownsRow Bs e size Bz 0 []:=⟨by simp,.inl ⟨rfl,rfl⟩⟩;have rep:∀{i:Nat} {x:Value×List Vt},(List.replicate n ((Bz,[]):Value×List Vt))[i]? =some x→x=(Bz,[]):=fun h=>(List.mem_replicate.1 (AM h)).2
   refine⟨by rw[hw4];exact hB.put 1 _,nilR,nilR,?_,fun i k hk=>(by simp at hk),fun i p hp=>(by simp at hp),fun i x hx=>?_,fun i j k k' hk=>(by simp at hk),fun i j p p' hp=>(by simp at hp),fun i j x y k hx hy h1=>?_⟩
   ·show w4'.ownsRow Bs _ 1 _ (List.replicate n _).length ((List.replicate n _).map _);rw[List.length_replicate,List.map_replicate,←HMc.out.2];exact⟨by simp[HMc.out.1],.inr ⟨sb,n,mc,rfl,hsB,hSb,AB _,by unfold maxLen;omega,by simp[HMc.out.1],AT (by simp[HMc.out.1])⟩⟩
   ·rw[rep hx];exact nilR
   ·rw[rep hx]at h1;simp[Value.ownBlock]at h1
  have hQ4:Blk w4' q 26 C.cells:=HQ3.out.off hg4 (.blk HG3.out (by decide));have hb04:Below Bs w w4':=hb03.grown hg4 hBs3 (fun j hj=>by injection hj with hj;subst hj;exact hgB);obtain⟨w4,hw4d⟩:∃w4,w4=w4'.drew:=⟨_,rfl⟩;rw[←hw4d];have hG4:A9 Bs w4 g ⟨M,hon,par,Bz,Bz,.slice (some ⟨sb,0,none⟩) n n,[],[],List.replicate n (Bz,[])⟩:=by rw[hw4d];exact hG4'.below (AC _ w4').drew
  have hQ4d:Blk w4 q 26 C.cells:=by rw[hw4d];exact hQ4
  have hb04d:Below Bs w w4:=by rw[hw4d];exact hb04.drew
  obtain⟨sv,hsv⟩:∃sv,sv=Value.slice (some ⟨sb,0,none⟩) n n:=⟨_,rfl⟩;rw[←hsv]at hG4;have hR4:Qs Bs g q C M hon par sv n [] [] w w4:=⟨Bz,Bz,[],[],hG4,rfl,rfl,hQ4d,hb04d⟩;have z1:w4.cell? ⟨q,0,none⟩=some (.int .i64 (n:Int)):=by rw[←HCn.out];exact hQ4d.cell 0
  have HR4:=AA hR4;have HHon:=AA hhon;obtain⟨i0,hi0,hz0,hz1,hz2⟩:=info_parts Bt;have HI0:=AA (And.intro hi0 (And.intro hz0 (And.intro hz1 hz2)));clear hw4 hg4 hG4' hQ4 hb04 hw4d hG4 hQ4d hb04d hsv hR4 hhon HG3 HS3 HQ3 y1 y2 y3 y4 y5 hi0 hz0 hz1 hz2 HQ HMc HW1 HQq hwm d1 d2 hQ1 hb1 hb13 hb03 hBs3;go_wp2
  go_loopw [44] (fun iv wr=>∃i:Nat,iv= .int .i64 (i:Int)∧i≤n∧Qs Bs g q C M hon par sv n ((List.range i).map (J9 s)) (msF s (List.range i) 0) w wr) (fun iv _=>n-(intOf iv).toNat)
  case atStart=>exact⟨0,rfl,Nat.zero_le _,HR4.out⟩
  case round=>
   obtain⟨i,rfl,hin,kv,pv,ks,ps,hG,hks,hps,hQ,hb⟩:=hrel;by_cases hi:i<n
   ·have di:decide ((i:Int)<(n:Int))=true:=by simp;omega
    have hi7:i<7:=by omega
    have HKv:Hid (∀V,Below wr.heap.size wr V→V.cell? ⟨g,10,none⟩=some kv):=fun V hV=>(hG.blk.below hV hG.blk.lt).cell 10
    obtain⟨b1,hb1⟩:∃b1,b1=UInt8.ofNat i:=⟨_,rfl⟩;have HB1:Hid (B b1= .int .u8 (i:Int)):=by unfold Hid;rw[hb1];exact JS i (by omega)
    obtain⟨s1,hs1⟩:∃s1,De (66::(C.seed.bytes++[b1]))=s1:=⟨_,rfl⟩;have HS1:Hid (s1=J9 s i):=by unfold Hid;rw[←hs1,HCs.out,hb1];rfl
    have hkl:ks.length=i:=by have:=congrArg List.length hks;simpa using this
    have hpl:ps.length=i:=by have:=congrArg List.length hps;simpa[Ff]using this
    have HTg:Hid (∀V A c,V.ownsRow 0 5 1 (.slice A 9 c) 9 ((C.seed.bytes++[b1]).map B)→Calls Tryz.prog 50 #[.int .u8 66,.slice A 9 c] V (BT V s1)):=fun V A c hV=>B8 66 A c (C.seed.bytes++[b1]) s1 V (Rd.of_own hV) (by simp[Nm.bytes]) hs1
    have HKs:=AA hks;have HPs:=AA hps;have HG:=AA hG;have HQ:=AA hQ;have HKl:=AA hkl;have HPl:=AA hpl;have hBsr:Bs≤wr.heap.size:=AF (by rw[HBs.out];exact AB _) hb.size;have hbr0:Below wr.heap.size wr wr:=AC _ _;clear hb1 hs1 hks hps hG hQ hkl hpl;go_upto_region 8 with fail
    go_cut[61] (fun _ wx=>∃(s1:Nm) (hp mk:Nat) (kv':Value),s1=J9 s i∧A9 Bs wx g ⟨M,hon,par,kv',pv,sv,ks++[⟨s1,hp,mk⟩],ps,List.replicate n (Bz,[])⟩∧Blk wx q 26 C.cells∧Below Bs w wx)
    case first=>
     refine rgD (fun _=>True) (trivial) fun hHeld=>?_
     refine tkD 47 0 ?_;go_frame;refine tkD 48 1 ?_;go_frame;refine tkD 49 2 ?_;go_frame;refine tkD 50 3 ?_;go_frame;refine tkD 52 5 ?_;go_frame;refine tkD 53 6 ?_;go_frame;refine tkD 54 7 ?_;go_frame;refine Az (some 55) (i:=8) (v:=(.int .u8 (i:Int))) rfl rfl (by kernel_rfl) (by kernel_rfl) (by kernel_rfl) (fun _ _ _ h=>h) (by rfl) (fun wq _=>L9 (.tmp 54) i rfl rfl (by omega) wq) (by assumption) ?_;go_frame;refine rd2 4 9 (fun K hK=>?_) fun K hK=>?_
     ·rw[if_pos (by rfl)];refine B5 kv (Dq (.tmp 50) rfl g 10 rfl kv (HKv.out _ hbr0.drew)) ?_;refine hK.out _ _ (trivial) (fun hHeld=>?_);clear hK K;try go_frame
      refine rd1 9 fun K hK=>?_
      go_simp;refine hK.out _ _ (trivial) (fun hHeld=>?_);clear hK K;try go_frame
      obtain⟨W1,hW1⟩:∃W1,W1=(wr.alloc (.cells #[Value.int .u8 (i:Int)] 5)).drew:=⟨_,rfl⟩;rw[←hW1];have hb11:Below wr.heap.size wr W1:=by rw[hW1];exact(hbr0.alloc (AB _) _).drew
      have hY1:Blk W1 wr.heap.size 5 #[B b1]:=by rw[hW1,HB1.out];exact Blk.new wr _ _
      have hQ1':Blk W1 q 26 C.cells:=HQ.out.below hb11 HQ.out.lt;clear hW1;refine rd1 10 fun K hK=>?_
      refine step_append_grows rfl (.tmp 53) (.tmp 56) 60 rfl 5 i0 (.int .u8 0) 1 1 Tryz.underlying60 HI0.out.1 HI0.out.2.1 HI0.out.2.2.1 HI0.out.2.2.2 rfl (by decide) (some ⟨q,3,none⟩) 8 8 (C.seed.bytes.map B) rfl (by intro h;cases h) rfl (Fg hQ1') ⟨wr.heap.size,0,none⟩ 1 1 [B b1] rfl rfl (fun j u hu=>by rw[Addr.add_mid,Nat.zero_add,hY1.cell];simpa using hu) (fun u hu=>by simp at hu;subst hu;rfl) (by omega) (by unfold maxLen;omega) (by omega) ?_;intro v2 w2 hown2 hg2;obtain⟨A2,c2,rfl⟩:=Ar hown2;have hb12:=Ck hb11 hg2;have HOwn2:Hid (w2.ownsRow 0 5 1 (.slice A2 9 c2) 9 ((C.seed.bytes++[b1]).map B)):=(by have h2:=BF hown2 (Nat.zero_le _);unfold Hid;rw[Ac];exact h2);clear hown2 hg2;refine hK.out _ _ (trivial) (fun hHeld=>?_);clear hK K;try go_frame
      refine rd1 11 fun K hK=>?_
      go_simp;refine(HTg.out w2 A2 c2 HOwn2.out).mono ?_;rintro en w3 ⟨rfl,hb3⟩;have hb13:=hb12.trans (hb3.mono hb12.size);go_wp2_with fail
      refine hK.out _ _ (trivial) (fun hHeld=>?_);clear hK K;try go_frame
      refine rd1 12 fun K hK=>?_
      go_simp;refine(Dw s1 w3).mono ?_;intro en w4 hk4;obtain⟨hp,mk,rfl,hm4,hK4,hb4⟩:=hk4.at;have HK4:=AA hK4;have hb14:=hb13.trans (hb4.mono hb13.size);clear hk4 hK4;go_wp2_with fail
      refine hK.out _ _ (trivial) (fun hHeld=>?_);clear hK K;try go_frame
      refine rd1 13 fun K hK=>?_
      go_simp;refine hK.out _ _ (trivial) (fun hHeld=>?_);clear hK K;try go_frame
      obtain⟨W5,hW5⟩:∃W5,W5=w4.alloc (.cells #[Value.pointer (some ⟨hp,0,none⟩)] 112):=⟨_,rfl⟩;rw[←hW5];have hb45:Below w4.heap.size w4 W5:=by rw[hW5];exact(AC _ w4).alloc (AB _) _
      have hb15:Below wr.heap.size wr W5:=hb14.trans (hb45.mono hb14.size);have hR5:Rd W5 W5.heap.size (some ⟨w4.heap.size,0,none⟩) [Am hp]:=by rw[hW5];exact Rd.of_blk (Blk.new w4 _ _) 0 1
      have hK5:Bc s1 hp mk W5:=HK4.out.below hb45;clear hW5;have hG5:A9 Bs W5 g ⟨M,hon,par,kv,pv,sv,ks,ps,List.replicate n (Bz,[])⟩:=HG.out.below hb15;have hO5:W5.ownsRow Bs 112 1 kv i (ks.map fun k=>Am k.h):=by have h5:=hG5.krow;rw[show(GmS.ks ⟨M,hon,par,kv,pv,sv,ks,ps,List.replicate n (Bz,[])⟩).length=i from HKl.out]at h5;exact h5
      have hBs5:Bs≤W5.heap.size:=AF hBsr hb15.size;refine rd1 14 fun K hK=>?_
      rw[if_pos (by rfl)];refine DU (some 61) rfl (.tmp 51) (.tmp 60) 90 rfl Bs 112 (.pointer none) 1 8 Tryz.underlying90 Do rfl (by decide) kv i (ks.map fun k=>Am k.h) rfl hO5 W5.heap.size (some ⟨w4.heap.size,0,none⟩) 1 1 [Am hp] rfl rfl hR5 (fun u hu=>by simp at hu;subst hu;rfl) (by omega) (by unfold maxLen;omega) hBs5 ?_;intro v6 w6 hown6 hg6 hat6;obtain⟨A6,c6,rfl⟩:=Ar hown6;refine hK.out _ _ (trivial) (fun hHeld=>?_);clear hK K;try go_frame
      refine tkD 62 15 ?_;go_frame;refine tkD 63 16 ?_;go_frame;have hBg6:Blk w6 g 93 _:=hG5.blk.offB hg6 (Bd hG5.krow) (by decide);have hQ6:Blk w6 q 26 C.cells:=Blk.offB (HQ.out.below hb15 HQ.out.lt) hg6 (Bd hG5.krow) (by decide);have hmk:Bs≤mk:=AF hBsr (AF hb13.size hm4);have hK7:=hG5.addK (k:=⟨s1,hp,mk⟩) hg6 (by rw[show(GmS.ks ⟨M,hon,par,kv,pv,sv,ks,ps,List.replicate n (Bz,[])⟩).length=i from HKl.out];exact hown6) ⟨hK5.offB hg6 (Bd hG5.krow) (by decide) (by decide),hmk⟩ (fun k' hk'=>by
       have h1:=HG.out.ks_lt k' hk';have h2:=hb13.size;show k'.m≠mk;omega)
      have hk6:∀j,kv.ownBlock=some j→Bs≤j:=fun j hj=>(hO5.lt j hj).1
      have hb6:Below Bs w w6:=(hb.trans (hb15.mono hBsr)).grown hg6 hBs5 hk6;refine rd1 17 fun K hK=>?_
      rw[if_pos (by rfl)];refine Bw (.tmp 63) (.tmp 61) (by rfl) g 10 (.slice A6 (i+1) c6) (by rfl) (by rfl) ⟨⟨_,hBg6.cell 10⟩,hBg6.frozen 10⟩ Dp rfl (by rfl) ?_;refine hK.out _ _ (trivial) (fun hHeld=>?_);clear hK K;try go_frame
      refine dnD ?_;obtain⟨w7,hw7⟩:∃w7,w7=w6.setCell ⟨g,10,none⟩ (.slice A6 (i+1) c6):=⟨_,rfl⟩;rw[←hw7];rw[←hw7]at hK7;have hQ7:Blk w7 q 26 C.cells:=hQ6.off hK7.2 (.blk hBg6 (by decide));have hb7:Below Bs w w7:=by rw[hw7];exact hb6.setCell (p:=⟨g,10,none⟩) hgB _
      clear hw7;go_wp2_with fail
      go_meet;exact⟨s1,hp,mk,.slice A6 (i+1) c6,HS1.out,hK7.1,hQ7,hb7⟩
     ·go_simp;refine hK.out _ _ (trivial) (fun hHeld=>?_);clear hK K;try go_frame
      obtain⟨W1,hW1⟩:∃W1,W1=(wr.alloc (.cells #[Value.int .u8 (i:Int)] 5)).drew:=⟨_,rfl⟩;rw[←hW1];have hb11:Below wr.heap.size wr W1:=by rw[hW1];exact(hbr0.alloc (AB _) _).drew
      have hY1:Blk W1 wr.heap.size 5 #[B b1]:=by rw[hW1,HB1.out];exact Blk.new wr _ _
      have hQ1':Blk W1 q 26 C.cells:=HQ.out.below hb11 HQ.out.lt;clear hW1;refine rd2 4 10 (fun K hK=>?_) fun K hK=>?_
      ·rw[if_pos (by rfl)];refine B5 kv (Dq (.tmp 50) rfl g 10 rfl kv (HKv.out _ hb11)) ?_;refine hK.out _ _ (trivial) (fun hHeld=>?_);clear hK K;try go_frame
       refine rd1 10 fun K hK=>?_
       refine step_append_grows rfl (.tmp 53) (.tmp 56) 60 rfl 5 i0 (.int .u8 0) 1 1 Tryz.underlying60 HI0.out.1 HI0.out.2.1 HI0.out.2.2.1 HI0.out.2.2.2 rfl (by decide) (some ⟨q,3,none⟩) 8 8 (C.seed.bytes.map B) rfl (by intro h;cases h) rfl (Fg hQ1') ⟨wr.heap.size,0,none⟩ 1 1 [B b1] rfl rfl (fun j u hu=>by rw[Addr.add_mid,Nat.zero_add,hY1.cell];simpa using hu) (fun u hu=>by simp at hu;subst hu;rfl) (by omega) (by unfold maxLen;omega) (by omega) ?_;intro v2 w2 hown2 hg2;obtain⟨A2,c2,rfl⟩:=Ar hown2;have hb12:=Ck hb11 hg2;have HOwn2:Hid (w2.ownsRow 0 5 1 (.slice A2 9 c2) 9 ((C.seed.bytes++[b1]).map B)):=(by have h2:=BF hown2 (Nat.zero_le _);unfold Hid;rw[Ac];exact h2);clear hown2 hg2;refine hK.out _ _ (trivial) (fun hHeld=>?_);clear hK K;try go_frame
       refine rd1 11 fun K hK=>?_
       go_simp;refine(HTg.out w2 A2 c2 HOwn2.out).mono ?_;rintro en w3 ⟨rfl,hb3⟩;have hb13:=hb12.trans (hb3.mono hb12.size);go_wp2_with fail
       refine hK.out _ _ (trivial) (fun hHeld=>?_);clear hK K;try go_frame
       refine rd1 12 fun K hK=>?_
       go_simp;refine(Dw s1 w3).mono ?_;intro en w4 hk4;obtain⟨hp,mk,rfl,hm4,hK4,hb4⟩:=hk4.at;have HK4:=AA hK4;have hb14:=hb13.trans (hb4.mono hb13.size);clear hk4 hK4;go_wp2_with fail
       refine hK.out _ _ (trivial) (fun hHeld=>?_);clear hK K;try go_frame
       refine rd1 13 fun K hK=>?_
       go_simp;refine hK.out _ _ (trivial) (fun hHeld=>?_);clear hK K;try go_frame
       obtain⟨W5,hW5⟩:∃W5,W5=w4.alloc (.cells #[Value.pointer (some ⟨hp,0,none⟩)] 112):=⟨_,rfl⟩;rw[←hW5];have hb45:Below w4.heap.size w4 W5:=by rw[hW5];exact(AC _ w4).alloc (AB _) _
       have hb15:Below wr.heap.size wr W5:=hb14.trans (hb45.mono hb14.size);have hR5:Rd W5 W5.heap.size (some ⟨w4.heap.size,0,none⟩) [Am hp]:=by rw[hW5];exact Rd.of_blk (Blk.new w4 _ _) 0 1
       have hK5:Bc s1 hp mk W5:=HK4.out.below hb45;clear hW5;have hG5:A9 Bs W5 g ⟨M,hon,par,kv,pv,sv,ks,ps,List.replicate n (Bz,[])⟩:=HG.out.below hb15;have hO5:W5.ownsRow Bs 112 1 kv i (ks.map fun k=>Am k.h):=by have h5:=hG5.krow;rw[show(GmS.ks ⟨M,hon,par,kv,pv,sv,ks,ps,List.replicate n (Bz,[])⟩).length=i from HKl.out]at h5;exact h5
       have hBs5:Bs≤W5.heap.size:=AF hBsr hb15.size;refine rd1 14 fun K hK=>?_
       rw[if_pos (by rfl)];refine DU (some 61) rfl (.tmp 51) (.tmp 60) 90 rfl Bs 112 (.pointer none) 1 8 Tryz.underlying90 Do rfl (by decide) kv i (ks.map fun k=>Am k.h) rfl hO5 W5.heap.size (some ⟨w4.heap.size,0,none⟩) 1 1 [Am hp] rfl rfl hR5 (fun u hu=>by simp at hu;subst hu;rfl) (by omega) (by unfold maxLen;omega) hBs5 ?_;intro v6 w6 hown6 hg6 hat6;obtain⟨A6,c6,rfl⟩:=Ar hown6;refine hK.out _ _ (trivial) (fun hHeld=>?_);clear hK K;try go_frame
       refine tkD 62 15 ?_;go_frame;refine tkD 63 16 ?_;go_frame;have hBg6:Blk w6 g 93 _:=hG5.blk.offB hg6 (Bd hG5.krow) (by decide);have hQ6:Blk w6 q 26 C.cells:=Blk.offB (HQ.out.below hb15 HQ.out.lt) hg6 (Bd hG5.krow) (by decide);have hmk:Bs≤mk:=AF hBsr (AF hb13.size hm4);have hK7:=hG5.addK (k:=⟨s1,hp,mk⟩) hg6 (by rw[show(GmS.ks ⟨M,hon,par,kv,pv,sv,ks,ps,List.replicate n (Bz,[])⟩).length=i from HKl.out];exact hown6) ⟨hK5.offB hg6 (Bd hG5.krow) (by decide) (by decide),hmk⟩ (fun k' hk'=>by
        have h1:=HG.out.ks_lt k' hk';have h2:=hb13.size;show k'.m≠mk;omega)
       have hk6:∀j,kv.ownBlock=some j→Bs≤j:=fun j hj=>(hO5.lt j hj).1
       have hb6:Below Bs w w6:=(hb.trans (hb15.mono hBsr)).grown hg6 hBs5 hk6;refine rd1 17 fun K hK=>?_
       rw[if_pos (by rfl)];refine Bw (.tmp 63) (.tmp 61) (by rfl) g 10 (.slice A6 (i+1) c6) (by rfl) (by rfl) ⟨⟨_,hBg6.cell 10⟩,hBg6.frozen 10⟩ Dp rfl (by rfl) ?_;refine hK.out _ _ (trivial) (fun hHeld=>?_);clear hK K;try go_frame
       refine dnD ?_;obtain⟨w7,hw7⟩:∃w7,w7=w6.setCell ⟨g,10,none⟩ (.slice A6 (i+1) c6):=⟨_,rfl⟩;rw[←hw7];rw[←hw7]at hK7;have hQ7:Blk w7 q 26 C.cells:=hQ6.off hK7.2 (.blk hBg6 (by decide));have hb7:Below Bs w w7:=by rw[hw7];exact hb6.setCell (p:=⟨g,10,none⟩) hgB _
       clear hw7;go_wp2_with fail
       go_meet;exact⟨s1,hp,mk,.slice A6 (i+1) c6,HS1.out,hK7.1,hQ7,hb7⟩
      ·refine step_append_grows rfl (.tmp 53) (.tmp 56) 60 rfl 5 i0 (.int .u8 0) 1 1 Tryz.underlying60 HI0.out.1 HI0.out.2.1 HI0.out.2.2.1 HI0.out.2.2.2 rfl (by decide) (some ⟨q,3,none⟩) 8 8 (C.seed.bytes.map B) rfl (by intro h;cases h) rfl (Fg hQ1') ⟨wr.heap.size,0,none⟩ 1 1 [B b1] rfl rfl (fun j u hu=>by rw[Addr.add_mid,Nat.zero_add,hY1.cell];simpa using hu) (fun u hu=>by simp at hu;subst hu;rfl) (by omega) (by unfold maxLen;omega) (by omega) ?_;intro v2 w2 hown2 hg2;obtain⟨A2,c2,rfl⟩:=Ar hown2;have hb12:=Ck hb11 hg2;have HOwn2:Hid (w2.ownsRow 0 5 1 (.slice A2 9 c2) 9 ((C.seed.bytes++[b1]).map B)):=(by have h2:=BF hown2 (Nat.zero_le _);unfold Hid;rw[Ac];exact h2);clear hown2 hg2;refine hK.out _ _ (trivial) (fun hHeld=>?_);clear hK K;try go_frame
       refine rd2 4 11 (fun K hK=>?_) fun K hK=>?_
       ·rw[if_pos (by rfl)];refine B5 kv (Dq (.tmp 50) rfl g 10 rfl kv (HKv.out _ hb12)) ?_;refine hK.out _ _ (trivial) (fun hHeld=>?_);clear hK K;try go_frame
        refine rd1 11 fun K hK=>?_
        go_simp;refine(HTg.out w2 A2 c2 HOwn2.out).mono ?_;rintro en w3 ⟨rfl,hb3⟩;have hb13:=hb12.trans (hb3.mono hb12.size);go_wp2_with fail
        refine hK.out _ _ (trivial) (fun hHeld=>?_);clear hK K;try go_frame
        refine rd1 12 fun K hK=>?_
        go_simp;refine(Dw s1 w3).mono ?_;intro en w4 hk4;obtain⟨hp,mk,rfl,hm4,hK4,hb4⟩:=hk4.at;have HK4:=AA hK4;have hb14:=hb13.trans (hb4.mono hb13.size);clear hk4 hK4;go_wp2_with fail
        refine hK.out _ _ (trivial) (fun hHeld=>?_);clear hK K;try go_frame
        refine rd1 13 fun K hK=>?_
        go_simp;refine hK.out _ _ (trivial) (fun hHeld=>?_);clear hK K;try go_frame
        obtain⟨W5,hW5⟩:∃W5,W5=w4.alloc (.cells #[Value.pointer (some ⟨hp,0,none⟩)] 112):=⟨_,rfl⟩;rw[←hW5];have hb45:Below w4.heap.size w4 W5:=by rw[hW5];exact(AC _ w4).alloc (AB _) _
        have hb15:Below wr.heap.size wr W5:=hb14.trans (hb45.mono hb14.size);have hR5:Rd W5 W5.heap.size (some ⟨w4.heap.size,0,none⟩) [Am hp]:=by rw[hW5];exact Rd.of_blk (Blk.new w4 _ _) 0 1
        have hK5:Bc s1 hp mk W5:=HK4.out.below hb45;clear hW5;have hG5:A9 Bs W5 g ⟨M,hon,par,kv,pv,sv,ks,ps,List.replicate n (Bz,[])⟩:=HG.out.below hb15;have hO5:W5.ownsRow Bs 112 1 kv i (ks.map fun k=>Am k.h):=by have h5:=hG5.krow;rw[show(GmS.ks ⟨M,hon,par,kv,pv,sv,ks,ps,List.replicate n (Bz,[])⟩).length=i from HKl.out]at h5;exact h5
        have hBs5:Bs≤W5.heap.size:=AF hBsr hb15.size;refine rd1 14 fun K hK=>?_
        rw[if_pos (by rfl)];refine DU (some 61) rfl (.tmp 51) (.tmp 60) 90 rfl Bs 112 (.pointer none) 1 8 Tryz.underlying90 Do rfl (by decide) kv i (ks.map fun k=>Am k.h) rfl hO5 W5.heap.size (some ⟨w4.heap.size,0,none⟩) 1 1 [Am hp] rfl rfl hR5 (fun u hu=>by simp at hu;subst hu;rfl) (by omega) (by unfold maxLen;omega) hBs5 ?_;intro v6 w6 hown6 hg6 hat6;obtain⟨A6,c6,rfl⟩:=Ar hown6;refine hK.out _ _ (trivial) (fun hHeld=>?_);clear hK K;try go_frame
        refine tkD 62 15 ?_;go_frame;refine tkD 63 16 ?_;go_frame;have hBg6:Blk w6 g 93 _:=hG5.blk.offB hg6 (Bd hG5.krow) (by decide);have hQ6:Blk w6 q 26 C.cells:=Blk.offB (HQ.out.below hb15 HQ.out.lt) hg6 (Bd hG5.krow) (by decide);have hmk:Bs≤mk:=AF hBsr (AF hb13.size hm4);have hK7:=hG5.addK (k:=⟨s1,hp,mk⟩) hg6 (by rw[show(GmS.ks ⟨M,hon,par,kv,pv,sv,ks,ps,List.replicate n (Bz,[])⟩).length=i from HKl.out];exact hown6) ⟨hK5.offB hg6 (Bd hG5.krow) (by decide) (by decide),hmk⟩ (fun k' hk'=>by
         have h1:=HG.out.ks_lt k' hk';have h2:=hb13.size;show k'.m≠mk;omega)
        have hk6:∀j,kv.ownBlock=some j→Bs≤j:=fun j hj=>(hO5.lt j hj).1
        have hb6:Below Bs w w6:=(hb.trans (hb15.mono hBsr)).grown hg6 hBs5 hk6;refine rd1 17 fun K hK=>?_
        rw[if_pos (by rfl)];refine Bw (.tmp 63) (.tmp 61) (by rfl) g 10 (.slice A6 (i+1) c6) (by rfl) (by rfl) ⟨⟨_,hBg6.cell 10⟩,hBg6.frozen 10⟩ Dp rfl (by rfl) ?_;refine hK.out _ _ (trivial) (fun hHeld=>?_);clear hK K;try go_frame
        refine dnD ?_;obtain⟨w7,hw7⟩:∃w7,w7=w6.setCell ⟨g,10,none⟩ (.slice A6 (i+1) c6):=⟨_,rfl⟩;rw[←hw7];rw[←hw7]at hK7;have hQ7:Blk w7 q 26 C.cells:=hQ6.off hK7.2 (.blk hBg6 (by decide));have hb7:Below Bs w w7:=by rw[hw7];exact hb6.setCell (p:=⟨g,10,none⟩) hgB _
        clear hw7;go_wp2_with fail
        go_meet;exact⟨s1,hp,mk,.slice A6 (i+1) c6,HS1.out,hK7.1,hQ7,hb7⟩
       ·go_simp;refine(HTg.out w2 A2 c2 HOwn2.out).mono ?_;rintro en w3 ⟨rfl,hb3⟩;have hb13:=hb12.trans (hb3.mono hb12.size);go_wp2_with fail
        refine hK.out _ _ (trivial) (fun hHeld=>?_);clear hK K;try go_frame
        refine rd2 4 12 (fun K hK=>?_) fun K hK=>?_
        ·rw[if_pos (by rfl)];refine B5 kv (Dq (.tmp 50) rfl g 10 rfl kv (HKv.out _ hb13)) ?_;refine hK.out _ _ (trivial) (fun hHeld=>?_);clear hK K;try go_frame
         refine rd1 12 fun K hK=>?_
         go_simp;refine(Dw s1 w3).mono ?_;intro en w4 hk4;obtain⟨hp,mk,rfl,hm4,hK4,hb4⟩:=hk4.at;have HK4:=AA hK4;have hb14:=hb13.trans (hb4.mono hb13.size);clear hk4 hK4;go_wp2_with fail
         refine hK.out _ _ (trivial) (fun hHeld=>?_);clear hK K;try go_frame
         refine rd1 13 fun K hK=>?_
         go_simp;refine hK.out _ _ (trivial) (fun hHeld=>?_);clear hK K;try go_frame
         obtain⟨W5,hW5⟩:∃W5,W5=w4.alloc (.cells #[Value.pointer (some ⟨hp,0,none⟩)] 112):=⟨_,rfl⟩;rw[←hW5];have hb45:Below w4.heap.size w4 W5:=by rw[hW5];exact(AC _ w4).alloc (AB _) _
         have hb15:Below wr.heap.size wr W5:=hb14.trans (hb45.mono hb14.size);have hR5:Rd W5 W5.heap.size (some ⟨w4.heap.size,0,none⟩) [Am hp]:=by rw[hW5];exact Rd.of_blk (Blk.new w4 _ _) 0 1
         have hK5:Bc s1 hp mk W5:=HK4.out.below hb45;clear hW5;have hG5:A9 Bs W5 g ⟨M,hon,par,kv,pv,sv,ks,ps,List.replicate n (Bz,[])⟩:=HG.out.below hb15;have hO5:W5.ownsRow Bs 112 1 kv i (ks.map fun k=>Am k.h):=by have h5:=hG5.krow;rw[show(GmS.ks ⟨M,hon,par,kv,pv,sv,ks,ps,List.replicate n (Bz,[])⟩).length=i from HKl.out]at h5;exact h5
         have hBs5:Bs≤W5.heap.size:=AF hBsr hb15.size;refine rd1 14 fun K hK=>?_
         rw[if_pos (by rfl)];refine DU (some 61) rfl (.tmp 51) (.tmp 60) 90 rfl Bs 112 (.pointer none) 1 8 Tryz.underlying90 Do rfl (by decide) kv i (ks.map fun k=>Am k.h) rfl hO5 W5.heap.size (some ⟨w4.heap.size,0,none⟩) 1 1 [Am hp] rfl rfl hR5 (fun u hu=>by simp at hu;subst hu;rfl) (by omega) (by unfold maxLen;omega) hBs5 ?_;intro v6 w6 hown6 hg6 hat6;obtain⟨A6,c6,rfl⟩:=Ar hown6;refine hK.out _ _ (trivial) (fun hHeld=>?_);clear hK K;try go_frame
         refine tkD 62 15 ?_;go_frame;refine tkD 63 16 ?_;go_frame;have hBg6:Blk w6 g 93 _:=hG5.blk.offB hg6 (Bd hG5.krow) (by decide);have hQ6:Blk w6 q 26 C.cells:=Blk.offB (HQ.out.below hb15 HQ.out.lt) hg6 (Bd hG5.krow) (by decide);have hmk:Bs≤mk:=AF hBsr (AF hb13.size hm4);have hK7:=hG5.addK (k:=⟨s1,hp,mk⟩) hg6 (by rw[show(GmS.ks ⟨M,hon,par,kv,pv,sv,ks,ps,List.replicate n (Bz,[])⟩).length=i from HKl.out];exact hown6) ⟨hK5.offB hg6 (Bd hG5.krow) (by decide) (by decide),hmk⟩ (fun k' hk'=>by
          have h1:=HG.out.ks_lt k' hk';have h2:=hb13.size;show k'.m≠mk;omega)
         have hk6:∀j,kv.ownBlock=some j→Bs≤j:=fun j hj=>(hO5.lt j hj).1
         have hb6:Below Bs w w6:=(hb.trans (hb15.mono hBsr)).grown hg6 hBs5 hk6;refine rd1 17 fun K hK=>?_
         rw[if_pos (by rfl)];refine Bw (.tmp 63) (.tmp 61) (by rfl) g 10 (.slice A6 (i+1) c6) (by rfl) (by rfl) ⟨⟨_,hBg6.cell 10⟩,hBg6.frozen 10⟩ Dp rfl (by rfl) ?_;refine hK.out _ _ (trivial) (fun hHeld=>?_);clear hK K;try go_frame
         refine dnD ?_;obtain⟨w7,hw7⟩:∃w7,w7=w6.setCell ⟨g,10,none⟩ (.slice A6 (i+1) c6):=⟨_,rfl⟩;rw[←hw7];rw[←hw7]at hK7;have hQ7:Blk w7 q 26 C.cells:=hQ6.off hK7.2 (.blk hBg6 (by decide));have hb7:Below Bs w w7:=by rw[hw7];exact hb6.setCell (p:=⟨g,10,none⟩) hgB _
         clear hw7;go_wp2_with fail
         go_meet;exact⟨s1,hp,mk,.slice A6 (i+1) c6,HS1.out,hK7.1,hQ7,hb7⟩
        ·go_simp;refine(Dw s1 w3).mono ?_;intro en w4 hk4;obtain⟨hp,mk,rfl,hm4,hK4,hb4⟩:=hk4.at;have HK4:=AA hK4;have hb14:=hb13.trans (hb4.mono hb13.size);clear hk4 hK4;go_wp2_with fail
         refine hK.out _ _ (trivial) (fun hHeld=>?_);clear hK K;try go_frame
         refine rd2 4 13 (fun K hK=>?_) fun K hK=>?_
         ·rw[if_pos (by rfl)];refine B5 kv (Dq (.tmp 50) rfl g 10 rfl kv (HKv.out _ hb14)) ?_;refine hK.out _ _ (trivial) (fun hHeld=>?_);clear hK K;try go_frame
          refine rd1 13 fun K hK=>?_
          go_simp;refine hK.out _ _ (trivial) (fun hHeld=>?_);clear hK K;try go_frame
          obtain⟨W5,hW5⟩:∃W5,W5=w4.alloc (.cells #[Value.pointer (some ⟨hp,0,none⟩)] 112):=⟨_,rfl⟩;rw[←hW5];have hb45:Below w4.heap.size w4 W5:=by rw[hW5];exact(AC _ w4).alloc (AB _) _
          have hb15:Below wr.heap.size wr W5:=hb14.trans (hb45.mono hb14.size);have hR5:Rd W5 W5.heap.size (some ⟨w4.heap.size,0,none⟩) [Am hp]:=by rw[hW5];exact Rd.of_blk (Blk.new w4 _ _) 0 1
          have hK5:Bc s1 hp mk W5:=HK4.out.below hb45;clear hW5;have hG5:A9 Bs W5 g ⟨M,hon,par,kv,pv,sv,ks,ps,List.replicate n (Bz,[])⟩:=HG.out.below hb15;have hO5:W5.ownsRow Bs 112 1 kv i (ks.map fun k=>Am k.h):=by have h5:=hG5.krow;rw[show(GmS.ks ⟨M,hon,par,kv,pv,sv,ks,ps,List.replicate n (Bz,[])⟩).length=i from HKl.out]at h5;exact h5
          have hBs5:Bs≤W5.heap.size:=AF hBsr hb15.size;refine rd1 14 fun K hK=>?_
          rw[if_pos (by rfl)];refine DU (some 61) rfl (.tmp 51) (.tmp 60) 90 rfl Bs 112 (.pointer none) 1 8 Tryz.underlying90 Do rfl (by decide) kv i (ks.map fun k=>Am k.h) rfl hO5 W5.heap.size (some ⟨w4.heap.size,0,none⟩) 1 1 [Am hp] rfl rfl hR5 (fun u hu=>by simp at hu;subst hu;rfl) (by omega) (by unfold maxLen;omega) hBs5 ?_;intro v6 w6 hown6 hg6 hat6;obtain⟨A6,c6,rfl⟩:=Ar hown6;refine hK.out _ _ (trivial) (fun hHeld=>?_);clear hK K;try go_frame
          refine tkD 62 15 ?_;go_frame;refine tkD 63 16 ?_;go_frame;have hBg6:Blk w6 g 93 _:=hG5.blk.offB hg6 (Bd hG5.krow) (by decide);have hQ6:Blk w6 q 26 C.cells:=Blk.offB (HQ.out.below hb15 HQ.out.lt) hg6 (Bd hG5.krow) (by decide);have hmk:Bs≤mk:=AF hBsr (AF hb13.size hm4);have hK7:=hG5.addK (k:=⟨s1,hp,mk⟩) hg6 (by rw[show(GmS.ks ⟨M,hon,par,kv,pv,sv,ks,ps,List.replicate n (Bz,[])⟩).length=i from HKl.out];exact hown6) ⟨hK5.offB hg6 (Bd hG5.krow) (by decide) (by decide),hmk⟩ (fun k' hk'=>by
           have h1:=HG.out.ks_lt k' hk';have h2:=hb13.size;show k'.m≠mk;omega)
          have hk6:∀j,kv.ownBlock=some j→Bs≤j:=fun j hj=>(hO5.lt j hj).1
          have hb6:Below Bs w w6:=(hb.trans (hb15.mono hBsr)).grown hg6 hBs5 hk6;refine rd1 17 fun K hK=>?_
          rw[if_pos (by rfl)];refine Bw (.tmp 63) (.tmp 61) (by rfl) g 10 (.slice A6 (i+1) c6) (by rfl) (by rfl) ⟨⟨_,hBg6.cell 10⟩,hBg6.frozen 10⟩ Dp rfl (by rfl) ?_;refine hK.out _ _ (trivial) (fun hHeld=>?_);clear hK K;try go_frame
          refine dnD ?_;obtain⟨w7,hw7⟩:∃w7,w7=w6.setCell ⟨g,10,none⟩ (.slice A6 (i+1) c6):=⟨_,rfl⟩;rw[←hw7];rw[←hw7]at hK7;have hQ7:Blk w7 q 26 C.cells:=hQ6.off hK7.2 (.blk hBg6 (by decide));have hb7:Below Bs w w7:=by rw[hw7];exact hb6.setCell (p:=⟨g,10,none⟩) hgB _
          clear hw7;go_wp2_with fail
          go_meet;exact⟨s1,hp,mk,.slice A6 (i+1) c6,HS1.out,hK7.1,hQ7,hb7⟩
         ·go_simp;refine hK.out _ _ (trivial) (fun hHeld=>?_);clear hK K;try go_frame
          obtain⟨W5,hW5⟩:∃W5,W5=w4.alloc (.cells #[Value.pointer (some ⟨hp,0,none⟩)] 112):=⟨_,rfl⟩;rw[←hW5];have hb45:Below w4.heap.size w4 W5:=by rw[hW5];exact(AC _ w4).alloc (AB _) _
          have hb15:Below wr.heap.size wr W5:=hb14.trans (hb45.mono hb14.size);have hR5:Rd W5 W5.heap.size (some ⟨w4.heap.size,0,none⟩) [Am hp]:=by rw[hW5];exact Rd.of_blk (Blk.new w4 _ _) 0 1
          have hK5:Bc s1 hp mk W5:=HK4.out.below hb45;clear hW5;refine rd1 4 fun K hK=>?_
          rw[if_pos (by rfl)];refine B5 kv (Dq (.tmp 50) rfl g 10 rfl kv (HKv.out _ hb15)) ?_;refine hK.out _ _ (trivial) (fun hHeld=>?_);clear hK K;try go_frame
          have hG5:A9 Bs W5 g ⟨M,hon,par,kv,pv,sv,ks,ps,List.replicate n (Bz,[])⟩:=HG.out.below hb15;have hO5:W5.ownsRow Bs 112 1 kv i (ks.map fun k=>Am k.h):=by have h5:=hG5.krow;rw[show(GmS.ks ⟨M,hon,par,kv,pv,sv,ks,ps,List.replicate n (Bz,[])⟩).length=i from HKl.out]at h5;exact h5
          have hBs5:Bs≤W5.heap.size:=AF hBsr hb15.size;refine rd1 14 fun K hK=>?_
          rw[if_pos (by rfl)];refine DU (some 61) rfl (.tmp 51) (.tmp 60) 90 rfl Bs 112 (.pointer none) 1 8 Tryz.underlying90 Do rfl (by decide) kv i (ks.map fun k=>Am k.h) rfl hO5 W5.heap.size (some ⟨w4.heap.size,0,none⟩) 1 1 [Am hp] rfl rfl hR5 (fun u hu=>by simp at hu;subst hu;rfl) (by omega) (by unfold maxLen;omega) hBs5 ?_;intro v6 w6 hown6 hg6 hat6;obtain⟨A6,c6,rfl⟩:=Ar hown6;refine hK.out _ _ (trivial) (fun hHeld=>?_);clear hK K;try go_frame
          refine tkD 62 15 ?_;go_frame;refine tkD 63 16 ?_;go_frame;have hBg6:Blk w6 g 93 _:=hG5.blk.offB hg6 (Bd hG5.krow) (by decide);have hQ6:Blk w6 q 26 C.cells:=Blk.offB (HQ.out.below hb15 HQ.out.lt) hg6 (Bd hG5.krow) (by decide);have hmk:Bs≤mk:=AF hBsr (AF hb13.size hm4);have hK7:=hG5.addK (k:=⟨s1,hp,mk⟩) hg6 (by rw[show(GmS.ks ⟨M,hon,par,kv,pv,sv,ks,ps,List.replicate n (Bz,[])⟩).length=i from HKl.out];exact hown6) ⟨hK5.offB hg6 (Bd hG5.krow) (by decide) (by decide),hmk⟩ (fun k' hk'=>by
           have h1:=HG.out.ks_lt k' hk';have h2:=hb13.size;show k'.m≠mk;omega)
          have hk6:∀j,kv.ownBlock=some j→Bs≤j:=fun j hj=>(hO5.lt j hj).1
          have hb6:Below Bs w w6:=(hb.trans (hb15.mono hBsr)).grown hg6 hBs5 hk6;refine rd1 17 fun K hK=>?_
          rw[if_pos (by rfl)];refine Bw (.tmp 63) (.tmp 61) (by rfl) g 10 (.slice A6 (i+1) c6) (by rfl) (by rfl) ⟨⟨_,hBg6.cell 10⟩,hBg6.frozen 10⟩ Dp rfl (by rfl) ?_;refine hK.out _ _ (trivial) (fun hHeld=>?_);clear hK K;try go_frame
          refine dnD ?_;obtain⟨w7,hw7⟩:∃w7,w7=w6.setCell ⟨g,10,none⟩ (.slice A6 (i+1) c6):=⟨_,rfl⟩;rw[←hw7];rw[←hw7]at hK7;have hQ7:Blk w7 q 26 C.cells:=hQ6.off hK7.2 (.blk hBg6 (by decide));have hb7:Below Bs w w7:=by rw[hw7];exact hb6.setCell (p:=⟨g,10,none⟩) hgB _
          clear hw7;go_wp2_with fail
          go_meet;exact⟨s1,hp,mk,.slice A6 (i+1) c6,HS1.out,hK7.1,hQ7,hb7⟩
    case rest=>
     obtain⟨s1,hp,mk,kv',hs1,hG7,hQ7,hb7⟩:=hcut;generalize wc=w7 at*;have HS1':=AA hs1;have HG7:=AA hG7;have HQ7:=AA hQ7;have y11:w7.cell? ⟨g,11,none⟩=some pv:=hG7.blk.cell 11;clear hs1 hG7 hQ7 HTg HKv HG HQ HS1 HB1;obtain⟨W8,hW8⟩:∃W8,W8=w7.alloc (.cells (Ec (i,Nm.zero)).cells 97):=⟨_,rfl⟩;obtain⟨W9,hW9⟩:∃W9,W9=W8.alloc (.cells #[Am w7.heap.size] 98):=⟨_,rfl⟩;have hb78:Below w7.heap.size w7 W8:=by rw[hW8];exact(AC _ _).alloc (AB _) _
     have hs8:W8.heap.size=w7.heap.size+1:=by rw[hW8];simp
     have hb79:Below w7.heap.size w7 W9:=by rw[hW9];exact hb78.alloc hb78.size _
     have hP9:Blk W9 w7.heap.size 97 (Ec (i,Nm.zero)).cells:=by rw[hW9,hW8];exact(Blk.new w7 _ _).alloc _
     have hR9:Rd W9 W9.heap.size (some ⟨w7.heap.size+1,0,none⟩) [Am w7.heap.size]:=by rw[hW9,←hs8];exact Rd.of_blk (Blk.new W8 _ _) 0 1
     have hG9:A9 Bs W9 g ⟨M,hon,par,kv',pv,sv,ks++[⟨s1,hp,mk⟩],ps,List.replicate n (Bz,[])⟩:=HG7.out.below hb79;have hO9:W9.ownsRow Bs 98 1 pv (i) (ps.map fun p=>Am p.1):=by have h5:=hG9.prow;rw[show(GmS.ps ⟨M,hon,par,kv',pv,sv,ks++[⟨s1,hp,mk⟩],ps,List.replicate n (Bz,[])⟩).length=i from HPl.out]at h5;exact h5
     have hBsW:Bs≤w7.heap.size:=AF (by rw[HBs.out];exact AB _) hb7.size;have hBs9:Bs≤W9.heap.size:=AF hBsW hb79.size;rw[hW8]at hW9;go_upto_region 10 with(at_builtin;refine Aq rfl (.tmp 68) (.tmp 72) _ rfl Bs 98 (.pointer none) 1 8 Tryz.underlying91 KA rfl (by decide) pv (i) (ps.map fun p=>Am p.1) rfl (hW9▸hO9) W9.heap.size (some ⟨w7.heap.size+1,0,none⟩) 1 1 [Am w7.heap.size] rfl rfl (hW9▸hR9) (fun u hu=>by simp at hu;subst hu;rfl) (by omega) (by unfold maxLen;omega) (hW9▸hBs9) ?_;intro v10 w10 hown10 hg10 hat10;have hg10:W9.grownBy w10 pv.ownBlock:=hW9▸hg10;obtain⟨A10,c10,rfl⟩:=Ar hown10;have hBg10:Blk w10 g 93 _:=hG9.blk.offB hg10 (Bd hG9.prow) (by decide);have k1:w10.cell? ⟨g,11,none⟩=some pv:=hBg10.cell 11;have k2:w10.frozen? ⟨g,11,none⟩=false:=hBg10.frozen 11)
     have hP11:=hG9.addP (b:=w7.heap.size) (P:=Ec (i,Nm.zero)) hg10 (by rw[show(GmS.ps ⟨M,hon,par,kv',pv,sv,ks++[⟨s1,hp,mk⟩],ps,List.replicate n (Bz,[])⟩).length=i from HPl.out];exact hown10) ⟨Nz (hP9.offB hg10 (Bd hG9.prow) (by decide)),hBsW⟩ (fun p hp=>by
      have h1:=HG7.out.ps_lt p hp;omega)
     have HG11:=AA hP11.1;have HQ11:Hid (Blk _ q 26 C.cells):=Blk.off (Blk.offB (HQ7.out.below hb79 HQ7.out.lt) hg10 (Bd hG9.prow) (by decide)) hP11.2 (.blk hBg10 (by decide));have hk10:∀j,pv.ownBlock=some j→Bs≤j:=fun j hj=>(hO9.lt j hj).1
     have hb11:Below Bs w _:=((hb7.trans (hb79.mono hBsW)).grown hg10 hBs9 hk10).setCell (p:=⟨g,11,none⟩) hgB (.slice A10 (i+1) c10);clear hW8 hW9 hb78 hb79 hP9 hR9 hG9 hO9 hP11 hk10 hBg10 k1 k2 hown10 hg10 hat10;go_wp2;go_roundw
     case rel=>
      refine⟨i+1,by go_num,by omega,_,_,_,_,HG11.out,?_,?_,HQ11.out,hb11⟩
      ·rw[Ac,HKs.out,List.range_succ,Ac,List.map_cons,List.map_nil,List.map_cons,List.map_nil,HS1'.out]
      ·rw[Ac,HPs.out,List.range_succ,L6,Ac];rfl
     case measure=>simp[intOf];omega
   ·have di:decide ((i:Int)<(n:Int))=false:=by simp;omega
    have hks':ks.map (·.seed)=(List.range n).map (J9 s):=by rw[hks,show i=n from by omega]
    have hps':ps.map (·.2)=(msF s (List.range n) 0).map Ec:=by rw[hps,show i=n from by omega]
    obtain⟨ids,hids⟩:∃ids,ids=CH (xOf (bits .and .i64 M T)) 10:=⟨_,rfl⟩;obtain⟨nI,hnI⟩:∃nI,ids.length=nI:=⟨_,rfl⟩;have hnI10:nI≤10:=by rw[←hnI,hids];exact E7 _ _
    have HIc:Hid (∀W,Calls Tryz.prog 52 #[.int .i64 (bits .and .i64 M T)] W fun e w'=>∃v,e= .returned v∧w'.ownsRow W.heap.size 3 1 v nI (ids.map fun i:Nat=>Value.int .i64 (i:Int))∧Below W.heap.size W w'):=fun W=>by rw[←hnI,hids];exact NT _ W
    have hpl:ps.length=n:=by have:=congrArg List.length hps';simpa[Ff]using this
    have HX:Hid (∀V,Below wr.heap.size wr V→V.cell? ⟨g,0,none⟩=some (.int .i64 M)∧V.cell? ⟨q,1,none⟩=some (.int .i64 T)):=fun V hV=>⟨(hG.below hV).blk.cell 0,by rw[←HCT.out];exact(hQ.below hV hQ.lt).cell 1⟩
    have HKs:=AA hks';have HPs:=AA hps';have HPl:=AA hpl;have HG:=AA hG;have HQ:=AA hQ;have HIe:=AA hids;have HIn:=AA hnI;have hBsr:Bs≤wr.heap.size:=AF (by rw[HBs.out];exact AB _) hb.size;clear hks hps hks' hps' hids hnI hpl hG hQ;go_upto_region 11 with fail
    refine rgD (fun V=>V.cell? ⟨g,0,none⟩=some (.int .i64 M)∧V.cell? ⟨q,1,none⟩=some (.int .i64 T)) (HX.out _ (AC wr.heap.size wr).drew) fun hHeld=>?_
    refine tkD 77 0 ?_;go_frame;refine tkD 78 1 ?_;go_frame;refine tkD 79 2 ?_;go_frame;refine tkD 80 3 ?_;go_frame;refine tkD 81 4 ?_;go_frame;refine tkD 82 5 ?_;go_frame;refine tkD 83 6 ?_;go_frame;refine tkD 86 9 ?_;go_frame;refine rd1 7 fun K hK=>?_
    go_simp;refine(HIc.out _).mono ?_;rintro en w8 ⟨v8,rfl,hown8,hb8⟩;obtain⟨A8,c8,rfl⟩:=Ar hown8;have hbr8:Below wr.heap.size wr w8:=((AC wr.heap.size wr).drew).trans (hb8.mono (Below.size (AC wr.heap.size wr).drew));have HOwn8:=AA hown8;clear hown8;go_wp2_with fail
    refine hK.out _ _ (HX.out _ hbr8) (fun hHeld=>?_);clear hK K;try go_frame
    refine tkD 85 8 ?_;go_frame;refine dnD ?_;have hG8:=HG.out.below hbr8;have HG8:=AA hG8;have HQ8:Hid (Blk w8 q 26 C.cells):=HQ.out.below hbr8 HQ.out.lt;have HI8:Hid (w8.ownsRow Bs 3 1 (.slice A8 nI c8) nI (ids.map fun i:Nat=>Value.int .i64 (i:Int))):=BF HOwn8.out hBsr;have hb08:Below Bs w w8:=hb.trans (hbr8.mono hBsr);clear hG8 HX HIc HOwn8 HG HQ hb8 hbr8;go_wp2
    go_loopw [86] (fun iv wr=>∃(j:Nat) (pv:Value) (ps:List (Nat×PrS)),iv= .int .i64 (j:Int)∧j≤nI∧wr.ownsRow Bs 3 1 (.slice A8 nI c8) nI (ids.map fun i:Nat=>Value.int .i64 (i:Int))∧A9 Bs wr g ⟨M,hon,par,kv,pv,sv,ks,ps,List.replicate n (Bz,[])⟩∧ps.map (·.2)=(msF s (List.range n++ids.take j) 0).map Ec∧Blk wr q 26 C.cells∧Below Bs w wr) (fun iv _=>nI-(intOf iv).toNat)
    case atStart=>exact⟨0,pv,ps,rfl,Nat.zero_le _,HI8.out,HG8.out,by rw[List.take_zero,List.append_nil];exact HPs.out,HQ8.out,hb08⟩
    case round=>
     clear HI8 HG8 HPs HQ8 hb08 HPl hb hBsr pv ps;obtain⟨j,pv,ps,rfl,hjn,hI,hG,hps,hQ,hb⟩:=hrel;by_cases hj:j<nI
     ·have dj:decide ((j:Int)<(nI:Int))=true:=by simp;omega
      obtain⟨m,hmj⟩:∃m,ids[j]? =some m:=⟨_,AE (by rw[HIn.out];exact hj)⟩;obtain⟨ab,ac,hv,hcell,_,_⟩:=CF (i:=j) (u:=.int .i64 (m:Int)) hI (by rw[AU,hmj];rfl);injection hv with hv hv1 hv2
      subst hv;clear hv1 hv2;have hpl:ps.length=n+j:=by have:=congrArg List.length hps;simpa[Ff,AZ,HIn.out,Nat.min_eq_left hjn]using this
      have HPl:=AA hpl;have HPs:=AA hps;have HG:=AA hG;have HQ:=AA hQ;have HI:=AA hI;have HMj:=AA hmj;have y11:wr.cell? ⟨g,11,none⟩=some pv:=hG.blk.cell 11;clear hpl hps hG hQ hI hmj;go_upto_region 14 with fail
      obtain⟨W8,hW8⟩:∃W8,W8=wr.alloc (.cells (Ec (m,Nm.zero)).cells 97):=⟨_,rfl⟩;obtain⟨W9,hW9⟩:∃W9,W9=W8.alloc (.cells #[Am wr.heap.size] 98):=⟨_,rfl⟩;have hb78:Below wr.heap.size wr W8:=by rw[hW8];exact(AC _ _).alloc (AB _) _
      have hs8:W8.heap.size=wr.heap.size+1:=by rw[hW8];simp
      have hb79:Below wr.heap.size wr W9:=by rw[hW9];exact hb78.alloc hb78.size _
      have hP9:Blk W9 wr.heap.size 97 (Ec (m,Nm.zero)).cells:=by rw[hW9,hW8];exact(Blk.new wr _ _).alloc _
      have hR9:Rd W9 W9.heap.size (some ⟨wr.heap.size+1,0,none⟩) [Am wr.heap.size]:=by rw[hW9,←hs8];exact Rd.of_blk (Blk.new W8 _ _) 0 1
      have hG9:A9 Bs W9 g ⟨M,hon,par,kv,pv,sv,ks,ps,List.replicate n (Bz,[])⟩:=HG.out.below hb79;have hO9:W9.ownsRow Bs 98 1 pv (n+j) (ps.map fun p=>Am p.1):=by have h5:=hG9.prow;rw[show(GmS.ps ⟨M,hon,par,kv,pv,sv,ks,ps,List.replicate n (Bz,[])⟩).length=n+j from HPl.out]at h5;exact h5
      have hBsW:Bs≤wr.heap.size:=AF (by rw[HBs.out];exact AB _) hb.size;have hBs9:Bs≤W9.heap.size:=AF hBsW hb79.size;rw[hW8]at hW9;go_upto_region 15 with(at_builtin;refine Aq rfl (.tmp 94) (.tmp 98) _ rfl Bs 98 (.pointer none) 1 8 Tryz.underlying91 KA rfl (by decide) pv (n+j) (ps.map fun p=>Am p.1) rfl (hW9▸hO9) W9.heap.size (some ⟨wr.heap.size+1,0,none⟩) 1 1 [Am wr.heap.size] rfl rfl (hW9▸hR9) (fun u hu=>by simp at hu;subst hu;rfl) (by omega) (by unfold maxLen;omega) (hW9▸hBs9) ?_;intro v10 w10 hown10 hg10 hat10;have hg10:W9.grownBy w10 pv.ownBlock:=hW9▸hg10;obtain⟨A10,c10,rfl⟩:=Ar hown10;have hBg10:Blk w10 g 93 _:=hG9.blk.offB hg10 (Bd hG9.prow) (by decide);have k1:w10.cell? ⟨g,11,none⟩=some pv:=hBg10.cell 11;have k2:w10.frozen? ⟨g,11,none⟩=false:=hBg10.frozen 11)
      have hP11:=hG9.addP (b:=wr.heap.size) (P:=Ec (m,Nm.zero)) hg10 (by rw[show(GmS.ps ⟨M,hon,par,kv,pv,sv,ks,ps,List.replicate n (Bz,[])⟩).length=n+j from HPl.out];exact hown10) ⟨Nz (hP9.offB hg10 (Bd hG9.prow) (by decide)),hBsW⟩ (fun p hp=>by
       have h1:=HG.out.ps_lt p hp;omega)
      have HG11:=AA hP11.1;have HQ11:Hid (Blk _ q 26 C.cells):=Blk.off (Blk.offB (HQ.out.below hb79 HQ.out.lt) hg10 (Bd hG9.prow) (by decide)) hP11.2 (.blk hBg10 (by decide));have hk10:∀j,pv.ownBlock=some j→Bs≤j:=fun j hj=>(hO9.lt j hj).1
      have hb11:Below Bs w _:=((hb.trans (hb79.mono hBsW)).grown hg10 hBs9 hk10).setCell (p:=⟨g,11,none⟩) hgB (.slice A10 (n+j+1) c10);have HI11:Hid (World.ownsRow _ Bs 3 1 (.slice (some ⟨ab,0,none⟩) nI c8) nI (ids.map fun i:Nat=>Value.int .i64 (i:Int))):=BO (Br (BA HI.out hb79 (AB _)) hg10 (Bd hG9.prow) (by decide)) hP11.2 (.blk hBg10 (by decide));clear hW8 hW9 hb78 hb79 hP9 hR9 hG9 hO9 hP11 hk10 hBg10 k1 k2 hown10 hg10 hat10;go_wp2;go_roundw
      case rel=>
       refine⟨j+1,_,_,by go_num,by omega,HI11.out,HG11.out,?_,HQ11.out,hb11⟩;rw[Ac,HPs.out,Ag,HMj.out,BE,←List.append_assoc,L6,Ac];rfl
      case measure=>simp[intOf];omega
     ·have dj:decide ((j:Int)<(nI:Int))=false:=by simp;omega
      obtain⟨ms,hms⟩:∃ms,ms=List.range n++ids:=⟨_,rfl⟩;have hps':ps.map (·.2)=(msF s ms 0).map Ec:=by rw[hps,AT (by rw[HIn.out];omega),hms]
      obtain⟨np,hnp⟩:∃np,ms.length=np:=⟨_,rfl⟩;have hpl:ps.length=np:=by have:=congrArg List.length hps';rw[←hnp];simpa[Ff]using this
      have hnp17:np≤17:=by rw[←hnp,hms,AI,List.length_range,HIn.out];omega
      obtain⟨A16,c16,hpv⟩:=Ar hG.prow;rw[show(GmS.ps ⟨M,hon,par,kv,pv,sv,ks,ps,List.replicate n (Bz,[])⟩).length=np from hpl]at hpv;replace hpv:pv= .slice A16 np c16:=hpv;subst hpv;have y11:wr.cell? ⟨g,11,none⟩=some (.slice A16 np c16):=hG.blk.cell 11;have HPs:=AA hps';have HG:=AA hG;have HQ:=AA hQ;have HMs:=AA hms;have HNp:=AA hnp;clear hps hps' hG hQ hI hms hnp hpl;go_wp2
      go_loopw [108] (fun iv wr=>∃(p:Nat) (ps:List (Nat×PrS)),iv= .int .i64 (p:Int)∧p≤np∧A9 Bs wr g ⟨M,hon,par,kv,.slice A16 np c16,sv,ks,ps,List.replicate n (Bz,[])⟩∧ps.map (·.2)=(msF s ms p).map Ec∧Blk wr q 26 C.cells∧Below Bs w wr) (fun iv _=>np-(intOf iv).toNat)
      case atStart=>exact⟨0,ps,rfl,Nat.zero_le _,HG.out,HPs.out,HQ.out,hb⟩
      case round=>
       clear HPs HG HQ hb y11 ps;obtain⟨p,ps,rfl,hpn,hG,hps,hQ,hb⟩:=hrel;by_cases hp:p<np
       ·have dp:decide ((p:Int)<(np:Int))=true:=by simp;omega
        obtain⟨⟨b,P⟩,hpp⟩:∃x,ps[p]? =some x:=⟨_,AE (by
         have:=congrArg List.length hps;simp only[AY,Ff,HNp.out]at this;omega)⟩
        have hx:∃m,ms[p]? =some m∧P=Ec (m,Nm.zero):=by
         have h1:(ps.map (·.2))[p]? =some P:=by rw[AU,hpp];rfl
         rw[hps,AU]at h1;obtain⟨x,h2,h3⟩:=Option.map_eq_some_iff.1 h1;obtain⟨h4,h5⟩:=Ny h2;rw[if_neg (by omega)]at h5;exact⟨x.1,h4,by rw[←h3,←h5]⟩
        obtain⟨pb,pc,hpv,_,_,hpi⟩:=hG.pcells hpp;injection hpv with hpv hv1 hv2
        subst hpv;clear hv1 hv2 hpi;have HX:Hid (∀V (G':GmS),A9 Bs V g G'→G'.pv= .slice (some ⟨pb,0,none⟩) np c16→(∃P',G'.ps[p]? =some (b,P'))→V.cell? ⟨g,11,none⟩=some (.slice (some ⟨pb,0,none⟩) np c16)∧V.cell? ⟨pb,p,none⟩=some (Am b)):=fun V G' h1 h2 ⟨P',h3⟩=>by
         obtain⟨pb',pc',e,z1,z2,_⟩:=h1.pcells h3;rw[h2]at e;rw[←e]at z1;injection e with e _ _
         injection e with e
         injection e with e _ _
         subst e;exact⟨z1,z2⟩
        obtain⟨b1,hb1⟩:∃b1,b1=UInt8.ofNat p:=⟨_,rfl⟩;have HB1:Hid (B b1= .int .u8 (p:Int)):=by unfold Hid;rw[hb1];exact JS p (by omega)
        obtain⟨s1,hs1⟩:∃s1,De (68::(C.seed.bytes++[b1]))=s1:=⟨_,rfl⟩;have HS1:Hid (s1=Gi s p):=by unfold Hid;rw[←hs1,HCs.out,hb1];rfl
        have HTg:Hid (∀V A c,V.ownsRow 0 5 1 (.slice A 9 c) 9 ((C.seed.bytes++[b1]).map B)→Calls Tryz.prog 50 #[.int .u8 68,.slice A 9 c] V (BT V s1)):=fun V A c hV=>B8 68 A c (C.seed.bytes++[b1]) s1 V (Rd.of_own hV) (by simp[Nm.bytes]) hs1
        have HPs:=AA hps;have HG:=AA hG;have HQ:=AA hQ;have HPp:=AA hpp;have HXx:=AA hx;have hBsr:Bs≤wr.heap.size:=AF (by rw[HBs.out];exact AB _) hb.size;have hbr0:Below wr.heap.size wr wr:=AC _ _;have hpi:(p:Int)<(np:Int):=by omega
        clear hb1 hs1 hps hG hQ hpp hx;go_upto_region 19 with fail
        refine rgD (fun V=>V.cell? ⟨g,11,none⟩=some (.slice (some ⟨pb,0,none⟩) np c16)∧V.cell? ⟨pb,p,none⟩=some (Am b)) (HX.out _ _ (HG.out.below (hbr0.drew)) rfl ⟨P,HPp.out⟩) fun hHeld=>?_
        refine tkD 111 0 ?_;go_frame;refine tkD 112 1 ?_;go_frame;refine tkD 113 2 ?_;go_frame;refine tkD 114 3 ?_;go_frame;refine tkD 115 4 ?_;go_frame;refine tkD 116 5 ?_;go_frame;refine tkD 117 6 ?_;go_frame;refine tkD 118 7 ?_;go_frame;refine tkD 119 8 ?_;go_frame;refine tkD 120 9 ?_;go_frame;refine Az (some 121) (i:=10) (v:=(.int .u8 (p:Int))) rfl rfl (by kernel_rfl) (by kernel_rfl) (by kernel_rfl) (fun _ _ _ h=>h) (by rfl) (fun wq _=>L9 (.tmp 120) p rfl rfl (by omega) wq) (by assumption) ?_;go_frame;refine rd1 11 fun K hK=>?_
        go_simp;refine hK.out _ _ (HX.out _ _ (HG.out.below ((hbr0.alloc (AB _) _).drew)) rfl ⟨P,HPp.out⟩) (fun hHeld=>?_);clear hK K;try go_frame
        obtain⟨W1,hW1⟩:∃W1,W1=(wr.alloc (.cells #[Value.int .u8 (p:Int)] 5)).drew:=⟨_,rfl⟩;rw[←hW1];have hb11:Below wr.heap.size wr W1:=by rw[hW1];exact(hbr0.alloc (AB _) _).drew
        have hY1:Blk W1 wr.heap.size 5 #[B b1]:=by rw[hW1,HB1.out];exact Blk.new wr _ _
        have hQ1':Blk W1 q 26 C.cells:=HQ.out.below hb11 HQ.out.lt;clear hW1;refine rd1 12 fun K hK=>?_
        refine step_append_grows rfl (.tmp 119) (.tmp 122) 60 rfl 5 i0 (.int .u8 0) 1 1 Tryz.underlying60 HI0.out.1 HI0.out.2.1 HI0.out.2.2.1 HI0.out.2.2.2 rfl (by decide) (some ⟨q,3,none⟩) 8 8 (C.seed.bytes.map B) rfl (by intro h;cases h) rfl (Fg hQ1') ⟨wr.heap.size,0,none⟩ 1 1 [B b1] rfl rfl (fun j u hu=>by rw[Addr.add_mid,Nat.zero_add,hY1.cell];simpa using hu) (fun u hu=>by simp at hu;subst hu;rfl) (by omega) (by unfold maxLen;omega) (by omega) ?_;intro v2 w2 hown2 hg2;obtain⟨A2,c2,rfl⟩:=Ar hown2;have hb12:=Ck hb11 hg2;have HOwn2:Hid (w2.ownsRow 0 5 1 (.slice A2 9 c2) 9 ((C.seed.bytes++[b1]).map B)):=(by have h2:=BF hown2 (Nat.zero_le _);unfold Hid;rw[Ac];exact h2);clear hown2 hg2;refine hK.out _ _ (HX.out _ _ (HG.out.below (hb12)) rfl ⟨P,HPp.out⟩) (fun hHeld=>?_);clear hK K;try go_frame
        refine rd1 13 fun K hK=>?_
        go_simp;refine(HTg.out w2 A2 c2 HOwn2.out).mono ?_;rintro en w3 ⟨rfl,hb3⟩;have hb13:=hb12.trans (hb3.mono hb12.size);go_wp2_with fail
        refine hK.out _ _ (HX.out _ _ (HG.out.below (hb13)) rfl ⟨P,HPp.out⟩) (fun hHeld=>?_);clear hK K;try go_frame
        refine tkD 125 14 ?_;go_frame;refine tkD 126 15 ?_;go_frame;have hG3:=HG.out.below hb13;have hP3:=hG3.prs _ _ HPp.out;have hbB:Bs≤b:=hP3.2;have hBs3:Bs≤w3.heap.size:=AF hBsr hb13.size;have hP7:=hP3.1.payd (s:=s1) rfl;have hG7:=hG3.setP HPp.out hP7.2 hP7.1;refine rd1 16 fun K hK=>?_
        rw[if_pos (by rfl)];refine Kn (.tmp 126) (.tmp 124) (by rfl) b P s1 (by rfl) (by rfl) hP3.1.blk (by rfl) ?_;refine hK.out _ _ (HX.out _ _ hG7 rfl ⟨_,List.getElem?_set_self (AG.1 HPp.out).1⟩) (fun hHeld=>?_);clear hK K;try go_frame
        refine dnD ?_;have HG7:=AA hG7;have HQ7:Hid (Blk _ q 26 C.cells):=Blk.off (HQ.out.below hb13 HQ.out.lt) hP7.2 (.blk hP3.1.blk (by decide));have hb7:Below Bs w _:=(hb.trans (hb13.mono hBsr)).grown hP7.2 hBs3 (fun j hj=>by injection hj with hj;subst hj;exact hbB);clear hG3 hP3 hP7 hG7 hQ1' hY1 HOwn2 HTg hb11 hb12 hb13 hb3 HG HQ;go_wp2;go_roundw
        case rel=>
         refine⟨p+1,_,by go_num,by omega,HG7.out,?_,HQ7.out,hb7⟩;obtain⟨m,hm,rfl⟩:=HXx.out;show(ps.set p (b,_)).map (·.2)=_;rw[List.map_set,HPs.out,←SA s ms p m hm,List.map_set,HS1.out]
        case measure=>simp[intOf];omega
       ·have dp:decide ((p:Int)<(np:Int))=false:=by simp;omega
        have hps':ps.map (·.2)=(msF s ms ms.length).map Ec:=by rw[hps,HNp.out,show p=np from by omega]
        have HPs:=AA hps';have HG:=AA hG;clear hps hps' hG hQ;go_wp2;go_ret2;refine⟨g,⟨M,hon,par,kv,.slice A16 np c16,sv,ks,ps,List.replicate n (Bz,[])⟩,rfl,by rw[←HBs.out];exact hb,by rw[←HBs.out];exact HG.out,HM.out,HHon.out,?_,HKs.out,⟨ms,?_,HPs.out⟩,rfl⟩
        ·show par=L5 s;rw[←HPar.out,HCs.out]
        ·rw[HMs.out,HIe.out]
end
end Go.Proofs.YtadllffeoibelaaGreat
