/-
  Parts of the proof. No condition.
-/
import Derived.Deep.RegionLawGrows
import Derived.Test.YtadllffeoibelaaGreatS23
open Go.Proofs.Tryz
namespace Go.Proofs.YtadllffeoibelaaGreat
set_option maxRecDepth 100000
set_option maxHeartbeats 32000000
set_option linter.all false
section
open Go.RowKit
attribute [local go_sem ↓] Go.wp_at_zero Go.wp_at_succ Aj Ao Ap Aq
attribute [local go_sem] Ax BB BC BD AK AR AN
structure Cfg where
 n:Int
 T:Int
 L:Int
 seed:Nm
abbrev Cfg.cells(c:Cfg):Array Value:=#[I c.n,I c.T,I c.L,B c.seed.b0,B c.seed.b1,B c.seed.b2,B c.seed.b3,B c.seed.b4,B c.seed.b5,B c.seed.b6,B c.seed.b7]
abbrev Cfg.val(c:Cfg):Value:=.agg c.cells
abbrev C0:Value:=.slice none 0 0
abbrev FV(x:Nat×Nm):PrS:=⟨C0,[],x.1,0,0,x.2,C0,[],false⟩
def ME(s:Nm)(m:Nat):Nm:=Dh (66::(s.bytes++[UInt8.ofNat m]))
def Ik(s:Nm)(p:Nat):Nm:=Dh (68::(s.bytes++[UInt8.ofNat p]))
def OB(s:Nm):Nm:=Dh (67::s.bytes)
def msF(s:Nm)(ms:List Nat)(p:Nat):List (Nat×Nm):=ms.mapIdx fun k m=>(m,if k<p then Ik s k else Nm.zero)
theorem OC(s:Nm)(ms:List Nat)(m:Nat):msF s (ms++[m]) 0=msF s ms 0++[(m,Nm.zero)]:=by
 unfold msF;rw[List.mapIdx_append];simp
theorem Vp(s:Nm)(ms:List Nat)(p m:Nat)(h:ms[p]? =some m):(msF s ms p).set p (m,Ik s p)=msF s ms (p+1):=by
 unfold msF;apply List.ext_getElem?;intro k;rw[List.getElem?_set,List.length_mapIdx,List.getElem?_mapIdx,List.getElem?_mapIdx];have hl:=(AE.1 h).1;by_cases hk:p=k
 ·subst hk;rw[if_pos rfl,if_pos hl,h];simp
 ·rw[if_neg hk];cases ms[k]? with
  |none=>rfl
  |some x=>
   simp only[Option.map_some];by_cases h1:k<p
   ·rw[if_pos h1,if_pos (by omega)]
   ·rw[if_neg h1,if_neg (by omega)]
theorem Gi(s:Nm)(ms:List Nat)(p:Nat):(msF s ms p).length=ms.length:=by unfold msF;exact List.length_mapIdx
theorem Qt{s:Nm}{ms:List Nat}{p k:Nat}{x:Nat×Nm}(h:(msF s ms p)[k]? =some x):ms[k]? =some x.1/\x.2=(if k<p then Ik s k else Nm.zero):=by
 unfold msF at h;rw[List.getElem?_mapIdx]at h;cases hm:ms[k]? with
 |none=>rw[hm]at h;cases h
 |some m=>
  rw[hm]at h;simp only[Option.map_some]at h;injection h with h
  subst h;exact⟨rfl,rfl⟩
theorem Rx:(prog.info? 112).map (fun i=>(i.zero,i.size,i.bytes))=some (some (.pointer none),1,8):=by kernel_rfl
theorem MF:(prog.info? 98).map (fun i=>(i.zero,i.size,i.bytes))=some (some (.pointer none),1,8):=by kernel_rfl
theorem Tp:(prog.info? 56).map (fun i=>(i.zero,i.size,i.bytes))=some (some (.slice none 0 0),1,24):=by kernel_rfl
theorem Ry:(prog.info? 90).map (·.size)=some 1:=by kernel_rfl
theorem Tq:∀n,n<=7->(madeCells (Value.slice none 0 0).cells n).toList=List.replicate n (.slice none 0 0):=fun n h=>by
 rcases(by omega:n=0∨n=1∨n=2∨n=3∨n=4∨n=5∨n=6∨n=7)with rfl|rfl|rfl|rfl|rfl|rfl|rfl|rfl <;> kernel_rfl
theorem Y3(n:Nat)(hn:n<=7)(W:World):(Instr.makeSlice 71 (.int .i64 (n:Int)) (.int .i64 (n:Int))).run prog W= .ok (.slice (some ⟨W.heap.size,0,none⟩) n n) (W.alloc (.cells (madeCells (Value.slice none 0 0).cells n) 56)):=by
 obtain⟨i0,hi,hz0,hz1,hz2⟩:=info_parts Tp;have:=run_makeSlice (P:=prog) (w:=W) 71 56 i0 (.slice none 0 0) underlying71 hi hz0 .i64 .i64 (n:Int) (n:Int) (by omega) (by omega) (by rw[hz1];simp;omega) (by rw[hz2];omega) (by omega);rw[this,hz1];simp
theorem OD{o:Oper}{a:Act}(M:Int)(p:Nm)(A:Option Addr)(n c:Nat)(x0 x2 x5:Operand)(ho:o.op= .build 93 #[(0,x0),(2,x2),(5,x5)])(h0:a.eval x0= .int .i64 M)(h2:a.eval x2= .agg p.cells)(h5:a.eval x5= .slice A n c)(w:World):(execOp a.eval o).run prog w= .ok (.value (.agg (GmS.cells ⟨M,0,p,C0,C0,.slice A n c,[],[],[]⟩))) w:=by
 unfold execOp;rw[ho];simp only[List.map_toArray,List.map_cons,List.map_nil,h0,h2,h5];go_simp
theorem OE{o:Oper}{a:Act}(x:Operand)(i:Nat)(ho:o.op= .convert 3 5 x)(hx:a.eval x= .int .i64 (i:Int))(hi:i<=255)(w:World):(execOp a.eval o).run prog w= .ok (.value (.int .u8 (i:Int))) w:=by
 have hw:IntKind.u8.wrap (i:Int)=(i:Int):=by rw[IntKind.wrap_u8];omega
 unfold execOp;rw[ho];simp only[hx];go_simp
theorem EQ{o:Oper}{a:Act}{w:World}(x:Operand)(ho:o.op= .load 90 x)(g i:Nat)(hx:a.eval x= .pointer (some ⟨g,i,none⟩))(u:Value)(hc:w.cell? ⟨g,i,none⟩=some u):(execOp a.eval o).run prog w= .ok (.value u) w:=by
 unfold execOp;rw[ho];simp only[hx];go_simp
abbrev Vq(M T L:Int):Int:=bits .andNot .i64 M (bits .or .i64 T L)
structure Pb (n:Nat)(T L:Int)(s:Nm)(G:GmS):Prop where
 M:G.M=((2^n:Nat):Int)-1
 hon:G.hon=Vq G.M T L
 par:G.par=OB s
 ks:G.ks.map (·.seed)=(List.range n).map (ME s)
 ps:∃ms:List Nat,ms=List.range n++CV (xOf (bits .and .i64 G.M T)) 10/\G.ps.map (·.2)=(msF s ms ms.length).map FV
 sg:G.sg=List.replicate n (C0,[])
def Tr(Bs g q:Nat)(C:Cfg)(M hon:Int)(par:Nm)(sv:Value)(n:Nat)(ksd:List Nm)(ms:List (Nat×Nm))(w wr:World):Prop:=
 ∃(kv pv:Value) (ks:List KyS) (ps:List (Nat×PrS)),A9 Bs wr g ⟨M,hon,par,kv,pv,sv,ks,ps,List.replicate n (C0,[])⟩/\ks.map (·.seed)=ksd/\ps.map (·.2)=ms.map FV/\Blk wr q 26 C.cells/\Below Bs w wr
theorem Qu{Bs b:Nat}{w:World}{x:Nat×Nm}(h:Blk w b 97 (FV x).cells):DL Bs w b (FV x):=
 ⟨h,⟨by simp,.inl ⟨rfl,rfl⟩⟩,fun s hs=>(by cases hs),⟨by simp,.inl ⟨rfl,rfl⟩⟩⟩
theorem A9.ks_lt{Bs g:Nat}{w:World}{G:GmS}(h:A9 Bs w g G):∀k∈G.ks,k.m<w.heap.size:=fun k hk=>by
 obtain⟨i,hi⟩:=List.getElem?_of_mem hk;obtain⟨_,_,tl,hM,_⟩:=(h.keys i k hi).1;exact hM.lt
theorem A9.ps_lt{Bs g:Nat}{w:World}{G:GmS}(h:A9 Bs w g G):∀p∈G.ps,p.1<w.heap.size:=fun p hp=>by
 obtain⟨i,hi⟩:=List.getElem?_of_mem hp;exact(h.prs i p hi).1.blk.lt
theorem DL.payd{Bs b:Nat}{w w':World}{P:PrS}{s:Nm}(h:DL Bs w b P)(hw:w'=w.setCells b 4 s.cells.toList):DL Bs w' b {P with pay:=s}/\w.grownBy w' (some b):=by
 obtain⟨_,hg,_⟩:=C1 b 97 s.cells.toList 4 w P.cells h.blk;rw[<-hw]at hg;refine⟨⟨?_,BR h.row hg (.blk h.blk (by decide)),fun x hx=>(h.sgs x hx).off hg (.blk h.blk (by decide)),BR h.dec hg (.blk h.blk (by decide))⟩,hg⟩;rw[hw];have h1:=(((((((h.blk.put 4 (B s.b0)).put 5 (B s.b1)).put 6 (B s.b2)).put 7 (B s.b3)).put 8 (B s.b4)).put 9 (B s.b5)).put 10 (B s.b6)).put 11 (B s.b7);simp only[World.setCells];simpa using h1
theorem Vr{w:World}{b:Nat}{P:PrS}(h:Blk w b 97 P.cells):w.there b 4 8:=fun j hj=>⟨by
 rw[h.cell];rcases(by omega:j=0∨j=1∨j=2∨j=3∨j=4∨j=5∨j=6∨j=7)with rfl|rfl|rfl|rfl|rfl|rfl|rfl|rfl <;> rfl,h.frozen _⟩
theorem Mr{op:Oper}{a:Act}{w:World}{K:Act->World->Prop}{Q:Exit->Act->World->Prop}(x y:Operand)(ho:op.op= .store 24 x y)(b:Nat)(P:PrS)(s:Nm)(hx:a.eval x= .pointer (some ⟨b,4,none⟩))(hy:a.eval y= .agg s.cells)(hB:Blk w b 97 P.cells)(hd:op.dst=none)(h:K a (w.setCells b 4 s.cells.toList)):op.wp prog a w K Q:=by
 refine wp_store_mid 24 x y ho b 4 s.cells hx hy (Vr hB) Ag (Array.all_eq_true_iff_forall_mem.2 fun v hv=>F6 s (by simpa using hv)) ?_;rw[hd];exact h
theorem Rd.seed{w:World}{q:Nat}{C:Cfg}(h:Blk w q 26 C.cells):Rd w w.heap.size (some ⟨q,3,none⟩) (C.seed.bytes.map B):=Rd.of_blk h 3 8
theorem MG{w:World}{q:Nat}{C:Cfg}(h:Blk w q 26 C.cells):∀b,some (⟨q,3,none⟩:Addr)=some b->∀j u,(C.seed.bytes.map B)[j]? =some u->w.cell? (b.add j)=some u:=fun b hb j u hu=>by
 injection hb with hb
 subst hb;rw[Addr.add_mid,h.cell];have hj:j<8:=by
  have:=(AE.1 hu).1;simpa[Nm.bytes]using this
 rcases(by omega:j=0∨j=1∨j=2∨j=3∨j=4∨j=5∨j=6∨j=7)with rfl|rfl|rfl|rfl|rfl|rfl|rfl|rfl <;> exact hu
theorem Qv(n:Nat)(hn:1<=n/\n<=7)(T L:Int)(s:Nm)(w:World):Calls prog 27 #[(Cfg.mk (n:Int) T L s).val] w fun e w'=>∃g G,e= .returned (.tuple #[Az g,.int .i64 0])/\Below w.heap.size w w'/\A9 w.heap.size w' g G/\Pb n T L s G:=by
 obtain⟨C,hC⟩:=ZH (Cfg.mk (n:Int) T L s);rw[<-hC];have hCn:C.n=(n:Int):=by rw[hC]
 have hCT:C.T=T:=by rw[hC]
 have hCL:C.L=L:=by rw[hC]
 have hCs:C.seed=s:=by rw[hC]
 obtain⟨Bs,hBs⟩:=ZH w.heap.size;obtain⟨w1,hw1⟩:=ZH (w.alloc (.cells C.cells 26));have hb1:Below Bs w w1:=by rw[hw1];exact(AC _ _).alloc (by omega) _
 have yK:Bs<=w1.heap.size:=by rw[hBs];exact hb1.size
 obtain⟨q,hq⟩:=ZH w.heap.size;have hqB:Bs<=q:=by omega
 have hQ1:Blk w1 q 26 C.cells:=by rw[hw1,hq];exact Blk.new w _ _
 have y0:w1.cell? ⟨q,0,none⟩=some (.int .i64 (n:Int)):=by rw[<-hCn];exact hQ1.cell 0
 have d1:decide ((n:Int)<1)=false:=by simp;omega
 have d2:decide (7<(n:Int))=false:=by simp;omega
 obtain⟨M,hM⟩:∃M:Int,M=((2^n:Nat):Int)-1:=⟨_,rfl⟩;have hM7:0<=M/\M<=127:=by
  rw[hM];rcases(by omega:n=1∨n=2∨n=3∨n=4∨n=5∨n=6∨n=7)with rfl|rfl|rfl|rfl|rfl|rfl|rfl <;> decide
 have hwm:IntKind.i64.wrap ((2:Int)^n-1)=M:=by
  have e:(2:Int)^n=((2^n:Nat):Int):=by simp
  rw[e,<-hM,IntKind.wrap_i64];omega
 have hmk:=Y3 n hn.2;obtain⟨mc,hmc⟩:=ZH (madeCells (Value.slice none 0 0).cells n);rw[<-hmc]at hmk;have hHb:mc.size=n:=by rw[hmc];exact size_madeCells _ _
 have hHc:mc.toList=List.replicate n (.slice none 0 0):=by rw[hmc];exact Tq n hn.2
 obtain⟨par,zt⟩:=ZI (OB C.seed);have HTg:Hid (∀V,Blk V q 26 C.cells->Calls prog 50 #[.int .u8 67,.slice (some ⟨q,3,none⟩) 8 8] V (BM V par)):=fun V hV=>CE 67 _ 8 C.seed.bytes par V (Rd.seed hV) (by simp[Nm.bytes]) zt
 have HQ:Hid (∀V,ZN w1 V->Blk V q 26 C.cells):=fun V hV=>hQ1.below hV hQ1.lt
 have HX:Hid (∀V,ZN w1 V->V.cell? ⟨q,0,none⟩=some (.int .i64 (n:Int))):=fun V hV=>by rw[<-hCn];exact(hQ1.below hV hQ1.lt).cell 0
 have HCT:=AA hCT;have HCn:=AA hCn;have HCL:=AA hCL;have HCs:=AA hCs;have HW1:=AA hw1;have HQq:=AA hq;have HM:=AA hM;have HMc:=AA (And.intro hHb hHc);have HPar:=AA zt;have HBs:=AA hBs;have hn1:=hn.1;have hn7:=hn.2;have hqw1:q<w1.heap.size:=hQ1.lt;clear hC hCn hCT hCL hCs hw1 hq hM hHb hHc hmc zt hBs hn;go_enter func27,ntmps27;go_upto_region 1 with fail
 simp only[<-HW1.out,<-HQq.out];go_upto_region 3 with fail
 go_cut[4] (fun gv wx=>∃g sb,gv= .pointer (some ⟨g,0,none⟩)/\Blk wx g 93 (GmS.cells ⟨M,0,par,C0,C0,.slice (some ⟨sb,0,none⟩) n n,[],[],[]⟩)/\Blk wx sb 56 mc/\Bs<=g/\Bs<=sb/\ZN w1 wx)
 case first=>
  refine rgD (fun V=>V.cell? ⟨q,0,none⟩=some (.int .i64 (n:Int))) (HX.out _ (AC w1.heap.size w1).drew) fun _=>?_
  iterate 2 (refine tkA ?_;go_frame)
  refine tkV 19 2 (.int .i64 ((2^n:Nat):Int)) (fun wq _=>IZ (.tmp 18) n rfl rfl (by omega) wq) ?_;go_frame
  iterate 3 (refine tkA ?_;go_frame)
  refine tkD 24 7 ?_;go_frame;refine tkD 25 8 ?_;go_frame;refine rd2 6 9 (fun K hK=>?_) fun K hK=>?_
  go_simp;refine(HTg.out _ (HQ.out _ (AC w1.heap.size w1).drew)).mono ?_;rintro en w3 ⟨rfl,hb3⟩;have yC:ZN w1 w3:=((AC w1.heap.size w1).drew).trans (hb3.mono (Below.size (AC w1.heap.size w1).drew));go_wp2_with fail
  refine hK.out _ _ (HX.out _ yC) (fun _=>?_);clear hK K;try go_frame
  refine rd1 9 fun K hK=>?_
  go_simp;refine hK.out _ _ (HX.out _ (yC.alloc yC.size _)) (fun _=>?_);clear hK K;try go_frame
  have hS4:Blk (w3.alloc (.cells mc 56)) w3.heap.size 56 mc:=Blk.new w3 _ _;have zN:ZN w1 (w3.alloc (.cells mc 56)):=yC.alloc yC.size _;have zU:Bs<=w3.heap.size:=AG yK yC.size;generalize w3.alloc (.cells mc 56)=w4 at*;generalize w3.heap.size=sb at hS4 zU ⊢;rotate_left;go_simp;refine hK.out _ _ (HX.out _ ((AC w1.heap.size w1).alloc (AB _) _).drew) (fun _=>?_);clear hK K;try go_frame
  refine rd1 6 fun K hK=>?_
  go_simp;refine(HTg.out _ (HQ.out _ ((AC w1.heap.size w1).alloc (AB _) _).drew)).mono ?_;rintro en w4 ⟨rfl,hb3⟩;have zN:ZN w1 w4:=(((AC w1.heap.size w1).alloc (AB _) _).drew).trans (hb3.mono (Below.size ((AC w1.heap.size w1).alloc (AB _) _).drew));have hS4:Blk w4 w1.heap.size 56 mc:=Blk.below (w:=(w1.alloc (.cells mc 56)).drew) (Blk.new w1 _ _) hb3 (by simp);have zU:=yK;go_wp2_with fail
  refine hK.out _ _ (HX.out _ zN) (fun _=>?_);clear hK K;try go_frame
  obtain⟨sb,hsb⟩:=ZI w1.heap.size;rw[hsb]at hS4;rw[show((some ⟨w1.heap.size,0,none⟩:Option Addr))=some ⟨sb,0,none⟩from by rw[hsb]];replace zU:Bs<=sb:=hsb▸zU;clear hsb
  all_goals
   refine tkV 27 10 (.agg (GmS.cells ⟨M,0,par,C0,C0,.slice (some ⟨sb,0,none⟩) n n,[],[],[]⟩)) (fun wq _=>OD M par (some ⟨sb,0,none⟩) n n (.tmp 20) (.tmp 23) (.tmp 26) rfl rfl rfl rfl wq) ?_;go_frame;refine rd1 11 fun K hK=>?_
   go_simp;refine hK.out _ _ (HX.out _ (zN.alloc zN.size _)) (fun _=>?_);clear hK K;try go_frame
   refine tkD 4 12 ?_;go_frame;refine dnD ?_;go_wp2_with fail
   go_meet;refine⟨_,_,rfl,Blk.new _ _ _,hS4.alloc _,?_,?_,zN.alloc zN.size _⟩
   ·exact AG yK zN.size
   ·exact zU
 case rest=>
  obtain⟨g,sb,rfl,hG3,hS3,hgB,hsB,yC⟩:=hcut;generalize wc=w3 at*;have hQ3:=HQ.out _ yC;have y1:w3.cell? ⟨g,0,none⟩=some (.int .i64 M):=hG3.cell 0;have y2:w3.cell? ⟨q,1,none⟩=some (.int .i64 T):=by rw[<-HCT.out];exact hQ3.cell 1
  have y3:w3.cell? ⟨q,2,none⟩=some (.int .i64 L):=by rw[<-HCL.out];exact hQ3.cell 2
  have y4:w3.cell? ⟨g,1,none⟩=some (.int .i64 0):=hG3.cell 1;have y5:w3.frozen? ⟨g,1,none⟩=false:=hG3.frozen 1;have HG3:=AA hG3;have HS3:=AA hS3;have HQ3:=AA hQ3;have xj:Below Bs w w3:=hb1.trans (yC.mono yK);have zr:Bs<=w3.heap.size:=AG yK yC.size;clear hG3 hS3 hQ3 hmk HTg HX y0;go_upto_region 4 with fail
  go_still_tail 13,(by kernel_rfl);change wpList _ _ _ _ _ w3.drew;go_upto_region 5 with fail
  obtain⟨hon,hFZ⟩:=ZH (Vq M T L);obtain⟨w4',hw4⟩:=ZH (w3.setCell ⟨g,1,none⟩ (.int .i64 (Vq M T L)));rw[<-hw4];rw[<-hFZ]at hw4;have hg4:w3.grownBy w4' (some g):=by rw[hw4];exact Bl (p:=⟨g,1,none⟩) (Am _ g) rfl _
  have hHd:A9 Bs w4' g ⟨M,hon,par,C0,C0,.slice (some ⟨sb,0,none⟩) n n,[],[],List.replicate n (C0,[])⟩:=by
   have hB:Blk w3 g 93 _:=HG3.out;have hSb:Blk w4' sb 56 mc:=HS3.out.off hg4 (.blk hB (by decide));have nilR:∀{e size:Nat},w4'.ownsRow Bs e size C0 0 []:=⟨by simp,.inl ⟨rfl,rfl⟩⟩;have rep:∀{i:Nat} {x:Value×List Vt},(List.replicate n ((C0,[]):Value×List Vt))[i]? =some x->x=(C0,[]):=fun h=>(List.mem_replicate.1 (AM h)).2
   refine⟨by rw[hw4];exact hB.put 1 _,nilR,nilR,?_,fun i k hk=>(by simp at hk),fun i p hp=>(by simp at hp),fun i x hx=>?_,fun i j k k' hk=>(by simp at hk),fun i j p p' hp=>(by simp at hp),fun i j x y k hx hy h1=>?_⟩
   ·show w4'.ownsRow Bs _ 1 _ (List.replicate n _).length ((List.replicate n _).map _);rw[List.length_replicate,List.map_replicate,<-HMc.out.2];exact⟨by simp[HMc.out.1],.inr ⟨sb,n,mc,rfl,hsB,hSb,AB _,by unfold maxLen;omega,by simp[HMc.out.1],AT (by simp[HMc.out.1])⟩⟩
   ·rw[rep hx];exact nilR
   ·rw[rep hx]at h1;simp[Value.ownBlock]at h1
  have hQ4:Blk w4' q 26 C.cells:=HQ3.out.off hg4 (.blk HG3.out (by decide));have zF:Below Bs w w4':=xj.grown hg4 zr (ZJ hgB);obtain⟨w4,hw4d⟩:=ZH w4'.drew;rw[<-hw4d];have hG4:A9 Bs w4 g ⟨M,hon,par,C0,C0,.slice (some ⟨sb,0,none⟩) n n,[],[],List.replicate n (C0,[])⟩:=by rw[hw4d];exact hHd.below (AC _ w4').drew
  have hQ4d:Blk w4 q 26 C.cells:=by rw[hw4d];exact hQ4
  have hb04d:Below Bs w w4:=by rw[hw4d];exact zF.drew
  obtain⟨sv,hsv⟩:=ZH (Value.slice (some ⟨sb,0,none⟩) n n);rw[<-hsv]at hG4;have hR4:Tr Bs g q C M hon par sv n [] [] w w4:=⟨C0,C0,[],[],hG4,rfl,rfl,hQ4d,hb04d⟩;have z1:w4.cell? ⟨q,0,none⟩=some (.int .i64 (n:Int)):=by rw[<-HCn.out];exact hQ4d.cell 0
  have HR4:=AA hR4;have hCE:=AA hFZ;obtain⟨i0,hi0,hz0,hz1,hz2⟩:=info_parts Bf;have HI0:=AA (And.intro hi0 (And.intro hz0 (And.intro hz1 hz2)));clear hw4 hg4 hHd hQ4 zF hw4d hG4 hQ4d hb04d hsv hR4 hFZ HG3 HS3 HQ3 y1 y2 y3 y4 y5 hi0 hz0 hz1 hz2 HQ HMc HW1 HQq hwm d1 d2 hQ1 hb1 yC xj zr;go_wp2
  go_loopw [44] (fun iv wr=>∃i:Nat,iv= .int .i64 (i:Int)/\i<=n/\Tr Bs g q C M hon par sv n ((List.range i).map (ME s)) (msF s (List.range i) 0) w wr) (fun iv _=>n-(intOf iv).toNat)
  case atStart=>exact⟨0,rfl,Nat.zero_le _,HR4.out⟩
  case round=>
   obtain⟨i,rfl,hin,kv,pv,ks,ps,hG,hks,hps,hQ,hb⟩:=hrel;by_cases hi:i<n
   ·have di:=ZK (show i<n by omega)
    have hi7:i<7:=by omega
    have HKv:Hid (∀V,ZN wr V->V.cell? ⟨g,10,none⟩=some kv):=fun V hV=>(hG.blk.below hV hG.blk.lt).cell 10
    obtain⟨b1,hb1⟩:=ZH (UInt8.ofNat i);have HB1:Hid (B b1= .int .u8 (i:Int)):=by unfold Hid;rw[hb1];exact K2 i (by omega)
    obtain⟨s1,hs1⟩:=ZI (Dh (66::(C.seed.bytes++[b1])));have HS1:Hid (s1=ME s i):=by unfold Hid;rw[<-hs1,HCs.out,hb1];rfl
    have hkl:ks.length=i:=by have:=congrArg List.length hks;simpa using this
    have hpl:ps.length=i:=by have:=congrArg List.length hps;simpa[Gi]using this
    have HTg:Hid (∀V A c,V.ownsRow 0 5 1 (.slice A 9 c) 9 ((C.seed.bytes++[b1]).map B)->Calls prog 50 #[.int .u8 66,.slice A 9 c] V (BM V s1)):=fun V A c hV=>CE 66 A c (C.seed.bytes++[b1]) s1 V (Rd.of_own hV) (by simp[Nm.bytes]) hs1
    have HKs:=AA hks;have HPs:=AA hps;have HG:=AA hG;have HQ:=AA hQ;have HKl:=AA hkl;have HPl:=AA hpl;have hAE:Bs<=wr.heap.size:=AG (by rw[HBs.out];exact AB _) hb.size;have hCm:ZN wr wr:=AC _ _;clear hb1 hs1 hks hps hG hQ hkl hpl;go_upto_region 8 with fail
    go_cut[61] (fun _ wx=>∃(s1:Nm) (hp mk:Nat) (kv':Value),s1=ME s i/\A9 Bs wx g ⟨M,hon,par,kv',pv,sv,ks++[⟨s1,hp,mk⟩],ps,List.replicate n (C0,[])⟩/\Blk wx q 26 C.cells/\Below Bs w wx)
    case first=>
     refine rgD (fun _=>True) (trivial) fun _=>?_
     iterate 4 (refine tkA ?_;go_frame)
     refine tkD 52 5 ?_;go_frame;refine tkD 53 6 ?_;go_frame;refine tkD 54 7 ?_;go_frame;refine tkV 55 8 (.int .u8 (i:Int)) (fun wq _=>OE (.tmp 54) i rfl rfl (by omega) wq) ?_;go_frame;refine rd2 4 9 (fun K hK=>?_) fun K hK=>?_
     rw[if_pos (by rfl)];refine CC kv (EQ (.tmp 50) rfl g 10 rfl kv (HKv.out _ hCm.drew)) ?_;refine hK.out _ _ (trivial) (fun _=>?_);clear hK K;try go_frame
     refine rd1 9 fun K hK=>?_
     all_goals
      go_simp;refine hK.out _ _ (trivial) (fun _=>?_);clear hK K;try go_frame
      obtain⟨W1,hW1⟩:=ZH ((wr.alloc (.cells #[Value.int .u8 (i:Int)] 5)).drew);rw[<-hW1];have yh:ZN wr W1:=by rw[hW1];exact(hCm.alloc (AB _) _).drew
      have hY1:Blk W1 wr.heap.size 5 #[B b1]:=by rw[hW1,HB1.out];exact Blk.new wr _ _
      have hEL:Blk W1 q 26 C.cells:=HQ.out.below yh HQ.out.lt;clear hW1
     rotate_left;refine rd2 4 10 (fun K hK=>?_) fun K hK=>?_
     rw[if_pos (by rfl)];refine CC kv (EQ (.tmp 50) rfl g 10 rfl kv (HKv.out _ yh)) ?_;refine hK.out _ _ (trivial) (fun _=>?_);clear hK K;try go_frame
     refine rd1 10 fun K hK=>?_
     rotate_left 2
     iterate 1
      refine rd1 10 fun K hK=>?_
      rotate_left
     all_goals
      refine step_append_grows rfl (.tmp 53) (.tmp 56) 60 rfl 5 i0 (.int .u8 0) 1 1 underlying60 HI0.out.1 HI0.out.2.1 HI0.out.2.2.1 HI0.out.2.2.2 rfl (by decide) (some ⟨q,3,none⟩) 8 8 (C.seed.bytes.map B) rfl (by intro h;cases h) rfl (MG hEL) ⟨wr.heap.size,0,none⟩ 1 1 [B b1] rfl rfl (fun j u hu=>by rw[Addr.add_mid,Nat.zero_add,hY1.cell];simpa using hu) (fun u hu=>by simp at hu;subst hu;rfl) (by omega) (by unfold maxLen;omega) (by omega) ?_;intro v2 w2 xG hg2;obtain⟨A2,c2,rfl⟩:=Av xG;have xd:=Dr yh hg2;have yD:Hid (w2.ownsRow 0 5 1 (.slice A2 9 c2) 9 ((C.seed.bytes++[b1]).map B)):=(by have h2:=BE xG (Nat.zero_le _);unfold Hid;rw[Ae];exact h2);clear xG hg2;refine hK.out _ _ (trivial) (fun _=>?_);clear hK K;try go_frame
     rotate_left;refine rd2 4 11 (fun K hK=>?_) fun K hK=>?_
     rw[if_pos (by rfl)];refine CC kv (EQ (.tmp 50) rfl g 10 rfl kv (HKv.out _ xd)) ?_;refine hK.out _ _ (trivial) (fun _=>?_);clear hK K;try go_frame
     refine rd1 11 fun K hK=>?_
     rotate_left 2
     iterate 2
      refine rd1 11 fun K hK=>?_
      rotate_left
     all_goals
      go_simp;refine(HTg.out w2 A2 c2 yD.out).mono ?_;rintro en w3 ⟨rfl,hb3⟩;have yC:=xd.trans (hb3.mono xd.size);go_wp2_with fail
      refine hK.out _ _ (trivial) (fun _=>?_);clear hK K;try go_frame
     rotate_left;refine rd2 4 12 (fun K hK=>?_) fun K hK=>?_
     rw[if_pos (by rfl)];refine CC kv (EQ (.tmp 50) rfl g 10 rfl kv (HKv.out _ yC)) ?_;refine hK.out _ _ (trivial) (fun _=>?_);clear hK K;try go_frame
     refine rd1 12 fun K hK=>?_
     rotate_left 2
     iterate 3
      refine rd1 12 fun K hK=>?_
      rotate_left
     all_goals
      go_simp;refine(QO s1 w3).mono ?_;intro en w4 hk4;obtain⟨hp,mk,rfl,hm4,hK4,hb4⟩:=hk4.at;have HK4:=AA hK4;have zN:=yC.trans (hb4.mono yC.size);clear hk4 hK4;go_wp2_with fail
      refine hK.out _ _ (trivial) (fun _=>?_);clear hK K;try go_frame
     rotate_left;refine rd2 4 13 (fun K hK=>?_) fun K hK=>?_
     rw[if_pos (by rfl)];refine CC kv (EQ (.tmp 50) rfl g 10 rfl kv (HKv.out _ zN)) ?_;refine hK.out _ _ (trivial) (fun _=>?_);clear hK K;try go_frame
     refine rd1 13 fun K hK=>?_
     rotate_left 2
     iterate 4
      refine rd1 13 fun K hK=>?_
      rotate_left
     all_goals
      go_simp;refine hK.out _ _ (trivial) (fun _=>?_);clear hK K;try go_frame
      obtain⟨W5,hW5⟩:=ZH (w4.alloc (.cells #[Value.pointer (some ⟨hp,0,none⟩)] 112));rw[<-hW5];have xn:ZN w4 W5:=by rw[hW5];exact(AC _ w4).alloc (AB _) _
      have hDT:ZN wr W5:=zN.trans (xn.mono zN.size);have hR5:Rd W5 W5.heap.size (some ⟨w4.heap.size,0,none⟩) [Az hp]:=by rw[hW5];exact Rd.of_blk (Blk.new w4 _ _) 0 1
      have hK5:Bg s1 hp mk W5:=HK4.out.below xn;clear hW5
     rotate_left;refine rd1 4 fun K hK=>?_
     rw[if_pos (by rfl)];refine CC kv (EQ (.tmp 50) rfl g 10 rfl kv (HKv.out _ hDT)) ?_;refine hK.out _ _ (trivial) (fun _=>?_);clear hK K;try go_frame
     all_goals
      have hG5:A9 Bs W5 g ⟨M,hon,par,kv,pv,sv,ks,ps,List.replicate n (C0,[])⟩:=HG.out.below hDT;have hO5:W5.ownsRow Bs 112 1 kv i (ks.map fun k=>Az k.h):=by have h5:=hG5.krow;rw[show(GmS.ks ⟨M,hon,par,kv,pv,sv,ks,ps,List.replicate n (C0,[])⟩).length=i from HKl.out]at h5;exact h5
      have hCD:Bs<=W5.heap.size:=AG hAE hDT.size;refine rd1 14 fun K hK=>?_
      rw[if_pos (by rfl)];refine Ft (some 61) rfl (.tmp 51) (.tmp 60) 90 rfl Bs 112 (.pointer none) 1 8 underlying90 Rx rfl (by decide) kv i (ks.map fun k=>Az k.h) rfl hO5 W5.heap.size (some ⟨w4.heap.size,0,none⟩) 1 1 [Az hp] rfl rfl hR5 (fun u hu=>by simp at hu;subst hu;rfl) (by omega) (by unfold maxLen;omega) hCD ?_;intro v6 w6 xi hg6 hat6;obtain⟨A6,c6,rfl⟩:=Av xi;refine hK.out _ _ (trivial) (fun _=>?_);clear hK K;try go_frame
      refine tkD 62 15 ?_;go_frame;refine tkD 63 16 ?_;go_frame;have hFa:Blk w6 g 93 _:=hG5.blk.offB hg6 (CD hG5.krow) (by decide);have hQ6:Blk w6 q 26 C.cells:=Blk.offB (HQ.out.below hDT HQ.out.lt) hg6 (CD hG5.krow) (by decide);have hmk:Bs<=mk:=AG hAE (AG yC.size hm4);have hK7:=hG5.addK (k:=⟨s1,hp,mk⟩) hg6 (by rw[show(GmS.ks ⟨M,hon,par,kv,pv,sv,ks,ps,List.replicate n (C0,[])⟩).length=i from HKl.out];exact xi) ⟨hK5.offB hg6 (CD hG5.krow) (by decide) (by decide),hmk⟩ (fun k' hk'=>by
       have h1:=HG.out.ks_lt k' hk';have h2:=yC.size;show k'.m≠mk;omega)
      have hk6:∀j,kv.ownBlock=some j->Bs<=j:=fun j hj=>(hO5.lt j hj).1
      have hb6:Below Bs w w6:=(hb.trans (hDT.mono hAE)).grown hg6 hCD hk6;refine rd1 17 fun K hK=>?_
      rw[if_pos (by rfl)];refine Db (.tmp 63) (.tmp 61) (by rfl) g 10 (.slice A6 (i+1) c6) (by rfl) (by rfl) ⟨⟨_,hFa.cell 10⟩,hFa.frozen 10⟩ Ry rfl (by rfl) ?_;refine hK.out _ _ (trivial) (fun _=>?_);clear hK K;try go_frame
      refine dnD ?_;obtain⟨w7,hw7⟩:=ZH (w6.setCell ⟨g,10,none⟩ (.slice A6 (i+1) c6));rw[<-hw7];rw[<-hw7]at hK7;have hQ7:Blk w7 q 26 C.cells:=hQ6.off hK7.2 (.blk hFa (by decide));have hb7:Below Bs w w7:=by rw[hw7];exact hb6.setCell (p:=⟨g,10,none⟩) hgB _
      clear hw7;go_wp2_with fail
      go_meet;exact⟨s1,hp,mk,.slice A6 (i+1) c6,HS1.out,hK7.1,hQ7,hb7⟩
    case rest=>
     obtain⟨s1,hp,mk,kv',hs1,hG7,hQ7,hb7⟩:=hcut;generalize wc=w7 at*;have HS1':=AA hs1;have HG7:=AA hG7;have HQ7:=AA hQ7;have y11:w7.cell? ⟨g,11,none⟩=some pv:=hG7.blk.cell 11;clear hs1 hG7 hQ7 HTg HKv HG HQ HS1 HB1;obtain⟨W8,hW8⟩:=ZH (w7.alloc (.cells (FV (i,Nm.zero)).cells 97));obtain⟨W9,hW9⟩:=ZH (W8.alloc (.cells #[Az w7.heap.size] 98));have hCF:ZN w7 W8:=by rw[hW8];exact(AC _ _).alloc (AB _) _
     have hs8:W8.heap.size=w7.heap.size+1:=by rw[hW8];simp
     have zd:ZN w7 W9:=by rw[hW9];exact hCF.alloc hCF.size _
     have hP9:Blk W9 w7.heap.size 97 (FV (i,Nm.zero)).cells:=by rw[hW9,hW8];exact(Blk.new w7 _ _).alloc _
     have hR9:Rd W9 W9.heap.size (some ⟨w7.heap.size+1,0,none⟩) [Az w7.heap.size]:=by rw[hW9,<-hs8];exact Rd.of_blk (Blk.new W8 _ _) 0 1
     have hG9:A9 Bs W9 g ⟨M,hon,par,kv',pv,sv,ks++[⟨s1,hp,mk⟩],ps,List.replicate n (C0,[])⟩:=HG7.out.below zd;have hO9:W9.ownsRow Bs 98 1 pv (i) (ps.map fun p=>Az p.1):=by have h5:=hG9.prow;rw[show(GmS.ps ⟨M,hon,par,kv',pv,sv,ks++[⟨s1,hp,mk⟩],ps,List.replicate n (C0,[])⟩).length=i from HPl.out]at h5;exact h5
     have hCG:Bs<=w7.heap.size:=AG (by rw[HBs.out];exact AB _) hb7.size;have hDU:Bs<=W9.heap.size:=AG hCG zd.size;rw[hW8]at hW9;go_upto_region 10 with(at_builtin;refine Ar rfl (.tmp 68) (.tmp 72) _ rfl Bs 98 (.pointer none) 1 8 underlying91 MF rfl (by decide) pv (i) (ps.map fun p=>Az p.1) rfl (hW9▸hO9) W9.heap.size (some ⟨w7.heap.size+1,0,none⟩) 1 1 [Az w7.heap.size] rfl rfl (hW9▸hR9) (fun u hu=>by simp at hu;subst hu;rfl) (by omega) (by unfold maxLen;omega) (hW9▸hDU) ?_;intro v10 w10 yU yJ hDV;have yJ:W9.grownBy w10 pv.ownBlock:=hW9▸yJ;obtain⟨A10,c10,rfl⟩:=Av yU;have zA:Blk w10 g 93 _:=hG9.blk.offB yJ (CD hG9.prow) (by decide);have k1:w10.cell? ⟨g,11,none⟩=some pv:=zA.cell 11;have k2:w10.frozen? ⟨g,11,none⟩=false:=zA.frozen 11)
     have hBS:=hG9.addP (b:=w7.heap.size) (P:=FV (i,Nm.zero)) yJ (by rw[show(GmS.ps ⟨M,hon,par,kv',pv,sv,ks++[⟨s1,hp,mk⟩],ps,List.replicate n (C0,[])⟩).length=i from HPl.out];exact yU) ⟨Qu (hP9.offB yJ (CD hG9.prow) (by decide)),hCG⟩ (fun p hp=>by
      have h1:=HG7.out.ps_lt p hp;omega)
     have hCo:=AA hBS.1;have hFb:Hid (Blk _ q 26 C.cells):=Blk.off (Blk.offB (HQ7.out.below zd HQ7.out.lt) yJ (CD hG9.prow) (by decide)) hBS.2 (.blk zA (by decide));have hCp:∀j,pv.ownBlock=some j->Bs<=j:=fun j hj=>(hO9.lt j hj).1
     have yh:Below Bs w _:=((hb7.trans (zd.mono hCG)).grown yJ hDU hCp).setCell (p:=⟨g,11,none⟩) hgB (.slice A10 (i+1) c10);clear hW8 hW9 hCF zd hP9 hR9 hG9 hO9 hBS hCp zA k1 k2 yU yJ hDV;go_wp2;go_roundw
     case rel=>
      refine⟨i+1,by go_num,by omega,_,_,_,_,hCo.out,?_,?_,hFb.out,yh⟩
      ·rw[Ae,HKs.out,List.range_succ,Ae,List.map_cons,List.map_nil,List.map_cons,List.map_nil,HS1'.out]
      ·rw[Ae,HPs.out,List.range_succ,OC,Ae];rfl
     case measure=>simp[intOf];omega
   ·have di:=ZL (show n<=i by omega)
    have hHe:ks.map (·.seed)=(List.range n).map (ME s):=by rw[hks,show i=n from by omega]
    have hAF:ps.map (·.2)=(msF s (List.range n) 0).map FV:=by rw[hps,show i=n from by omega]
    obtain⟨ids,zm⟩:=ZH (CV (xOf (bits .and .i64 M T)) 10);obtain⟨nI,hnI⟩:=ZI ids.length;have hnI10:nI<=10:=by rw[<-hnI,zm];exact GV _ _
    have HIc:Hid (∀W,Calls prog 52 #[.int .i64 (bits .and .i64 M T)] W fun e w'=>∃v,e= .returned v/\w'.ownsRow W.heap.size 3 1 v nI (ids.map fun i:Nat=>Value.int .i64 (i:Int))/\ZN W w'):=fun W=>by rw[<-hnI,zm];exact RN _ W
    have hpl:ps.length=n:=by have:=congrArg List.length hAF;simpa[Gi]using this
    have HX:Hid (∀V,ZN wr V->V.cell? ⟨g,0,none⟩=some (.int .i64 M)/\V.cell? ⟨q,1,none⟩=some (.int .i64 T)):=fun V hV=>⟨(hG.below hV).blk.cell 0,by rw[<-HCT.out];exact(hQ.below hV hQ.lt).cell 1⟩
    have HKs:=AA hHe;have HPs:=AA hAF;have HPl:=AA hpl;have HG:=AA hG;have HQ:=AA hQ;have HIe:=AA zm;have HIn:=AA hnI;have hAE:Bs<=wr.heap.size:=AG (by rw[HBs.out];exact AB _) hb.size;clear hks hps hHe hAF zm hnI hpl hG hQ;go_upto_region 11 with fail
    refine rgD (fun V=>V.cell? ⟨g,0,none⟩=some (.int .i64 M)/\V.cell? ⟨q,1,none⟩=some (.int .i64 T)) (HX.out _ (AC wr.heap.size wr).drew) fun _=>?_
    iterate 7 (refine tkA ?_;go_frame)
    refine tkD 86 9 ?_;go_frame;refine rd1 7 fun K hK=>?_
    go_simp;refine(HIc.out _).mono ?_;rintro en w8 ⟨v8,rfl,xf,hb8⟩;obtain⟨A8,c8,rfl⟩:=Av xf;have hDW:ZN wr w8:=((AC wr.heap.size wr).drew).trans (hb8.mono (Below.size (AC wr.heap.size wr).drew));have zX:=AA xf;clear xf;go_wp2_with fail
    refine hK.out _ _ (HX.out _ hDW) (fun _=>?_);clear hK K;try go_frame
    refine tkD 85 8 ?_;go_frame;refine dnD ?_;have hG8:=HG.out.below hDW;have HG8:=AA hG8;have HQ8:Hid (Blk w8 q 26 C.cells):=HQ.out.below hDW HQ.out.lt;have HI8:Hid (w8.ownsRow Bs 3 1 (.slice A8 nI c8) nI (ids.map fun i:Nat=>Value.int .i64 (i:Int))):=BE zX.out hAE;have yu:Below Bs w w8:=hb.trans (hDW.mono hAE);clear hG8 HX HIc zX HG HQ hb8 hDW;go_wp2
    go_loopw [86] (fun iv wr=>∃(j:Nat) (pv:Value) (ps:List (Nat×PrS)),iv= .int .i64 (j:Int)/\j<=nI/\wr.ownsRow Bs 3 1 (.slice A8 nI c8) nI (ids.map fun i:Nat=>Value.int .i64 (i:Int))/\A9 Bs wr g ⟨M,hon,par,kv,pv,sv,ks,ps,List.replicate n (C0,[])⟩/\ps.map (·.2)=(msF s (List.range n++ids.take j) 0).map FV/\Blk wr q 26 C.cells/\Below Bs w wr) (fun iv _=>nI-(intOf iv).toNat)
    case atStart=>exact⟨0,pv,ps,rfl,Nat.zero_le _,HI8.out,HG8.out,by rw[List.take_zero,List.append_nil];exact HPs.out,HQ8.out,yu⟩
    case round=>
     clear HI8 HG8 HPs HQ8 yu HPl hb hAE pv ps;obtain⟨j,pv,ps,rfl,hjn,hI,hG,hps,hQ,hb⟩:=hrel;by_cases hj:j<nI
     ·have dj:=ZK (show j<nI by omega)
      obtain⟨m,hmj⟩:∃m,ids[j]? =some m:=⟨_,AD (by rw[HIn.out];exact hj)⟩;obtain⟨ab,ac,hv,xH,_,_⟩:=Cg (i:=j) (u:=.int .i64 (m:Int)) hI (by rw[AQ,hmj];rfl);injection hv with hv hv1 hv2
      subst hv;clear hv1 hv2;have hpl:ps.length=n+j:=by have:=congrArg List.length hps;simpa[Gi,AZ,HIn.out,Nat.min_eq_left hjn]using this
      have HPl:=AA hpl;have HPs:=AA hps;have HG:=AA hG;have HQ:=AA hQ;have HI:=AA hI;have HMj:=AA hmj;have y11:wr.cell? ⟨g,11,none⟩=some pv:=hG.blk.cell 11;clear hpl hps hG hQ hI hmj;go_upto_region 14 with fail
      obtain⟨W8,hW8⟩:=ZH (wr.alloc (.cells (FV (m,Nm.zero)).cells 97));obtain⟨W9,hW9⟩:=ZH (W8.alloc (.cells #[Az wr.heap.size] 98));have hCF:ZN wr W8:=by rw[hW8];exact(AC _ _).alloc (AB _) _
      have hs8:W8.heap.size=wr.heap.size+1:=by rw[hW8];simp
      have zd:ZN wr W9:=by rw[hW9];exact hCF.alloc hCF.size _
      have hP9:Blk W9 wr.heap.size 97 (FV (m,Nm.zero)).cells:=by rw[hW9,hW8];exact(Blk.new wr _ _).alloc _
      have hR9:Rd W9 W9.heap.size (some ⟨wr.heap.size+1,0,none⟩) [Az wr.heap.size]:=by rw[hW9,<-hs8];exact Rd.of_blk (Blk.new W8 _ _) 0 1
      have hG9:A9 Bs W9 g ⟨M,hon,par,kv,pv,sv,ks,ps,List.replicate n (C0,[])⟩:=HG.out.below zd;have hO9:W9.ownsRow Bs 98 1 pv (n+j) (ps.map fun p=>Az p.1):=by have h5:=hG9.prow;rw[show(GmS.ps ⟨M,hon,par,kv,pv,sv,ks,ps,List.replicate n (C0,[])⟩).length=n+j from HPl.out]at h5;exact h5
      have hCG:Bs<=wr.heap.size:=AG (by rw[HBs.out];exact AB _) hb.size;have hDU:Bs<=W9.heap.size:=AG hCG zd.size;rw[hW8]at hW9;go_upto_region 15 with(at_builtin;refine Ar rfl (.tmp 94) (.tmp 98) _ rfl Bs 98 (.pointer none) 1 8 underlying91 MF rfl (by decide) pv (n+j) (ps.map fun p=>Az p.1) rfl (hW9▸hO9) W9.heap.size (some ⟨wr.heap.size+1,0,none⟩) 1 1 [Az wr.heap.size] rfl rfl (hW9▸hR9) (fun u hu=>by simp at hu;subst hu;rfl) (by omega) (by unfold maxLen;omega) (hW9▸hDU) ?_;intro v10 w10 yU yJ hDV;have yJ:W9.grownBy w10 pv.ownBlock:=hW9▸yJ;obtain⟨A10,c10,rfl⟩:=Av yU;have zA:Blk w10 g 93 _:=hG9.blk.offB yJ (CD hG9.prow) (by decide);have k1:w10.cell? ⟨g,11,none⟩=some pv:=zA.cell 11;have k2:w10.frozen? ⟨g,11,none⟩=false:=zA.frozen 11)
      have hBS:=hG9.addP (b:=wr.heap.size) (P:=FV (m,Nm.zero)) yJ (by rw[show(GmS.ps ⟨M,hon,par,kv,pv,sv,ks,ps,List.replicate n (C0,[])⟩).length=n+j from HPl.out];exact yU) ⟨Qu (hP9.offB yJ (CD hG9.prow) (by decide)),hCG⟩ (fun p hp=>by
       have h1:=HG.out.ps_lt p hp;omega)
      have hCo:=AA hBS.1;have hFb:Hid (Blk _ q 26 C.cells):=Blk.off (Blk.offB (HQ.out.below zd HQ.out.lt) yJ (CD hG9.prow) (by decide)) hBS.2 (.blk zA (by decide));have hCp:∀j,pv.ownBlock=some j->Bs<=j:=fun j hj=>(hO9.lt j hj).1
      have yh:Below Bs w _:=((hb.trans (zd.mono hCG)).grown yJ hDU hCp).setCell (p:=⟨g,11,none⟩) hgB (.slice A10 (n+j+1) c10);have HI11:Hid (World.ownsRow _ Bs 3 1 (.slice (some ⟨ab,0,none⟩) nI c8) nI (ids.map fun i:Nat=>Value.int .i64 (i:Int))):=BR (Bh (Ay HI.out zd (AB _)) yJ (CD hG9.prow) (by decide)) hBS.2 (.blk zA (by decide));clear hW8 hW9 hCF zd hP9 hR9 hG9 hO9 hBS hCp zA k1 k2 yU yJ hDV;go_wp2;go_roundw
      case rel=>
       refine⟨j+1,_,_,by go_num,by omega,HI11.out,hCo.out,?_,hFb.out,yh⟩;rw[Ae,HPs.out,Ai,HMj.out,BX,<-List.append_assoc,OC,Ae];rfl
      case measure=>simp[intOf];omega
     ·have dj:=ZL (show nI<=j by omega)
      obtain⟨ms,hms⟩:=ZH (List.range n++ids);have hAF:ps.map (·.2)=(msF s ms 0).map FV:=by rw[hps,AT (by rw[HIn.out];omega),hms]
      obtain⟨np,hnp⟩:=ZI ms.length;have hpl:ps.length=np:=by have:=congrArg List.length hAF;rw[<-hnp];simpa[Gi]using this
      have hnp17:np<=17:=by rw[<-hnp,hms,AF,List.length_range,HIn.out];omega
      obtain⟨A16,c16,hpv⟩:=Av hG.prow;rw[show(GmS.ps ⟨M,hon,par,kv,pv,sv,ks,ps,List.replicate n (C0,[])⟩).length=np from hpl]at hpv;replace hpv:pv= .slice A16 np c16:=hpv;subst hpv;have y11:wr.cell? ⟨g,11,none⟩=some (.slice A16 np c16):=hG.blk.cell 11;have HPs:=AA hAF;have HG:=AA hG;have HQ:=AA hQ;have HMs:=AA hms;have HNp:=AA hnp;clear hps hAF hG hQ hI hms hnp hpl;go_wp2
      go_loopw [108] (fun iv wr=>∃(p:Nat) (ps:List (Nat×PrS)),iv= .int .i64 (p:Int)/\p<=np/\A9 Bs wr g ⟨M,hon,par,kv,.slice A16 np c16,sv,ks,ps,List.replicate n (C0,[])⟩/\ps.map (·.2)=(msF s ms p).map FV/\Blk wr q 26 C.cells/\Below Bs w wr) (fun iv _=>np-(intOf iv).toNat)
      case atStart=>exact⟨0,ps,rfl,Nat.zero_le _,HG.out,HPs.out,HQ.out,hb⟩
      case round=>
       clear HPs HG HQ hb y11 ps;obtain⟨p,ps,rfl,hpn,hG,hps,hQ,hb⟩:=hrel;by_cases hp:p<np
       ·have dp:=ZK (show p<np by omega)
        obtain⟨⟨b,P⟩,hpp⟩:∃x,ps[p]? =some x:=⟨_,AD (by
         have:=congrArg List.length hps;simp only[AX,Gi,HNp.out]at this;omega)⟩
        have hx:∃m,ms[p]? =some m/\P=FV (m,Nm.zero):=by
         have h1:(ps.map (·.2))[p]? =some P:=by rw[AQ,hpp];rfl
         rw[hps,AQ]at h1;obtain⟨x,h2,h3⟩:=Option.map_eq_some_iff.1 h1;obtain⟨h4,h5⟩:=Qt h2;rw[if_neg (by omega)]at h5;exact⟨x.1,h4,by rw[<-h3,<-h5]⟩
        obtain⟨pb,pc,hpv,_,_,hpi⟩:=hG.pcells hpp;injection hpv with hpv hv1 hv2
        subst hpv;clear hv1 hv2 hpi;have HX:Hid (∀V (G':GmS),A9 Bs V g G'->G'.pv= .slice (some ⟨pb,0,none⟩) np c16->(∃P',G'.ps[p]? =some (b,P'))->V.cell? ⟨g,11,none⟩=some (.slice (some ⟨pb,0,none⟩) np c16)/\V.cell? ⟨pb,p,none⟩=some (Az b)):=fun V G' h1 h2 ⟨P',h3⟩=>by
         obtain⟨pb',pc',e,z1,z2,_⟩:=h1.pcells h3;rw[h2]at e;rw[<-e]at z1;injection e with e _ _
         injection e with e
         injection e with e _ _
         subst e;exact⟨z1,z2⟩
        obtain⟨b1,hb1⟩:=ZH (UInt8.ofNat p);have HB1:Hid (B b1= .int .u8 (p:Int)):=by unfold Hid;rw[hb1];exact K2 p (by omega)
        obtain⟨s1,hs1⟩:=ZI (Dh (68::(C.seed.bytes++[b1])));have HS1:Hid (s1=Ik s p):=by unfold Hid;rw[<-hs1,HCs.out,hb1];rfl
        have HTg:Hid (∀V A c,V.ownsRow 0 5 1 (.slice A 9 c) 9 ((C.seed.bytes++[b1]).map B)->Calls prog 50 #[.int .u8 68,.slice A 9 c] V (BM V s1)):=fun V A c hV=>CE 68 A c (C.seed.bytes++[b1]) s1 V (Rd.of_own hV) (by simp[Nm.bytes]) hs1
        have HPs:=AA hps;have HG:=AA hG;have HQ:=AA hQ;have HPp:=AA hpp;have HXx:=AA hx;have hAE:Bs<=wr.heap.size:=AG (by rw[HBs.out];exact AB _) hb.size;have hCm:ZN wr wr:=AC _ _;have hpi:(p:Int)<(np:Int):=by omega
        clear hb1 hs1 hps hG hQ hpp hx;go_upto_region 19 with fail
        refine rgD (fun V=>V.cell? ⟨g,11,none⟩=some (.slice (some ⟨pb,0,none⟩) np c16)/\V.cell? ⟨pb,p,none⟩=some (Az b)) (HX.out _ _ (HG.out.below (hCm.drew)) rfl ⟨P,HPp.out⟩) fun _=>?_
        iterate 10 (refine tkA ?_;go_frame)
        refine tkV 121 10 (.int .u8 (p:Int)) (fun wq _=>OE (.tmp 120) p rfl rfl (by omega) wq) ?_;go_frame;refine rd1 11 fun K hK=>?_
        go_simp;refine hK.out _ _ (HX.out _ _ (HG.out.below ((hCm.alloc (AB _) _).drew)) rfl ⟨P,HPp.out⟩) (fun _=>?_);clear hK K;try go_frame
        obtain⟨W1,hW1⟩:=ZH ((wr.alloc (.cells #[Value.int .u8 (p:Int)] 5)).drew);rw[<-hW1];have yh:ZN wr W1:=by rw[hW1];exact(hCm.alloc (AB _) _).drew
        have hY1:Blk W1 wr.heap.size 5 #[B b1]:=by rw[hW1,HB1.out];exact Blk.new wr _ _
        have hEL:Blk W1 q 26 C.cells:=HQ.out.below yh HQ.out.lt;clear hW1;refine rd1 12 fun K hK=>?_
        refine step_append_grows rfl (.tmp 119) (.tmp 122) 60 rfl 5 i0 (.int .u8 0) 1 1 underlying60 HI0.out.1 HI0.out.2.1 HI0.out.2.2.1 HI0.out.2.2.2 rfl (by decide) (some ⟨q,3,none⟩) 8 8 (C.seed.bytes.map B) rfl (by intro h;cases h) rfl (MG hEL) ⟨wr.heap.size,0,none⟩ 1 1 [B b1] rfl rfl (fun j u hu=>by rw[Addr.add_mid,Nat.zero_add,hY1.cell];simpa using hu) (fun u hu=>by simp at hu;subst hu;rfl) (by omega) (by unfold maxLen;omega) (by omega) ?_;intro v2 w2 xG hg2;obtain⟨A2,c2,rfl⟩:=Av xG;have xd:=Dr yh hg2;have yD:Hid (w2.ownsRow 0 5 1 (.slice A2 9 c2) 9 ((C.seed.bytes++[b1]).map B)):=(by have h2:=BE xG (Nat.zero_le _);unfold Hid;rw[Ae];exact h2);clear xG hg2;refine hK.out _ _ (HX.out _ _ (HG.out.below (xd)) rfl ⟨P,HPp.out⟩) (fun _=>?_);clear hK K;try go_frame
        refine rd1 13 fun K hK=>?_
        go_simp;refine(HTg.out w2 A2 c2 yD.out).mono ?_;rintro en w3 ⟨rfl,hb3⟩;have yC:=xd.trans (hb3.mono xd.size);go_wp2_with fail
        refine hK.out _ _ (HX.out _ _ (HG.out.below (yC)) rfl ⟨P,HPp.out⟩) (fun _=>?_);clear hK K;try go_frame
        iterate 2 (refine tkA ?_;go_frame)
        have hG3:=HG.out.below yC;have hP3:=hG3.prs _ _ HPp.out;have hbB:Bs<=b:=hP3.2;have zr:Bs<=w3.heap.size:=AG hAE yC.size;have hP7:=hP3.1.payd (s:=s1) rfl;have hG7:=hG3.setP HPp.out hP7.2 hP7.1;refine rd1 16 fun K hK=>?_
        rw[if_pos (by rfl)];refine Mr (.tmp 126) (.tmp 124) (by rfl) b P s1 (by rfl) (by rfl) hP3.1.blk (by rfl) ?_;refine hK.out _ _ (HX.out _ _ hG7 rfl ⟨_,List.getElem?_set_self (AE.1 HPp.out).1⟩) (fun _=>?_);clear hK K;try go_frame
        refine dnD ?_;have HG7:=AA hG7;have HQ7:Hid (Blk _ q 26 C.cells):=Blk.off (HQ.out.below yC HQ.out.lt) hP7.2 (.blk hP3.1.blk (by decide));have hb7:Below Bs w _:=(hb.trans (yC.mono hAE)).grown hP7.2 zr (ZJ hbB);clear hG3 hP3 hP7 hG7 hEL hY1 yD HTg yh xd yC hb3 HG HQ;go_wp2;go_roundw
        case rel=>
         refine⟨p+1,_,by go_num,by omega,HG7.out,?_,HQ7.out,hb7⟩;obtain⟨m,hm,rfl⟩:=HXx.out;show(ps.set p (b,_)).map (·.2)=_;rw[List.map_set,HPs.out,<-Vp s ms p m hm,List.map_set,HS1.out]
        case measure=>simp[intOf];omega
       ·have dp:=ZL (show np<=p by omega)
        have hAF:ps.map (·.2)=(msF s ms ms.length).map FV:=by rw[hps,HNp.out,show p=np from by omega]
        have HPs:=AA hAF;have HG:=AA hG;clear hps hAF hG hQ;go_wp2;go_ret2;refine⟨g,⟨M,hon,par,kv,.slice A16 np c16,sv,ks,ps,List.replicate n (C0,[])⟩,rfl,by rw[<-HBs.out];exact hb,by rw[<-HBs.out];exact HG.out,HM.out,hCE.out,?_,HKs.out,⟨ms,?_,HPs.out⟩,rfl⟩
        ·show par=OB s;rw[<-HPar.out,HCs.out]
        ·rw[HMs.out,HIe.out]
end
section
open Go.RowKit
theorem GL(M:Int)(i:Nat)(hi:i<10):(BitVec.ofInt 64 M).getLsbD i=(xOf M).testBit i:=by
 have e:xOf M=(BitVec.ofInt 64 M).toNat%2^10:=by
  rw[BitVec.toNat_ofInt];unfold xOf;omega
 rw[e,Nat.testBit_mod_two_pow,decide_eq_true hi,Bool.true_and];rfl
theorem Rz(a M:Int)(h:bits .andNot .i64 a M=0):InN (xOf a) (xOf M):=by
 have h1:IntKind.i64.wrap ((BitVec.ofInt 64 a&&& ~~~BitVec.ofInt 64 M).toNat:Int)=0:=h;have h2:(BitVec.ofInt 64 a&&& ~~~BitVec.ofInt 64 M)=0#64:=by
  have hlt:=(BitVec.ofInt 64 a&&& ~~~BitVec.ofInt 64 M).isLt;rw[IntKind.wrap_i64]at h1;apply BitVec.eq_of_toNat_eq;simp only[BitVec.toNat_ofNat];omega
 intro i hi hb;have h3:=congrArg (fun x:BitVec 64=>x.getLsbD i) h2;simp only[BitVec.getLsbD_and,BitVec.getLsbD_not,BitVec.getLsbD_zero,GL a i hi,GL M i hi,hb]at h3;have h64:decide (i<64)=true:=by simp;omega
 rw[h64]at h3;simpa using h3
theorem Gj{a b:Vt}(h:Cl a b=true):MV a b:=by
 unfold Cl at h;rw[Bool.and_eq_true,decide_eq_true_eq,decide_eq_true_eq]at h;exact h
theorem Ms{M:Int}{q:Nat}{v:Vt}{C:List Vt}{pr:Vt->Bool}(h:Ep M q v C pr=true):∃S,InN S (xOf M)/\Aw S 10=q/\∀i,i<10->S.testBit i=true->∃w∈C,w.signer=(i:Int)/\pr w=true:=by
 unfold Ep at h;rw[Bool.and_eq_true,Bool.and_eq_true,decide_eq_true_eq,decide_eq_true_eq,List.all_eq_true]at h;refine⟨xOf v.support,Rz _ _ h.1,h.2.1,fun i hi hb=>?_⟩;have h1:=h.2.2 i (I5.2 ⟨hi,hb⟩);obtain⟨w,hw,h2⟩:=List.any_eq_true.1 h1;rw[Bool.and_eq_true,decide_eq_true_eq]at h2;exact⟨w,hw,h2.1,h2.2⟩
theorem Qw{M:Int}{p:Nm}{s:Int}{l O:List Vt}(h:S9 M p s l O)(hx:0<Aw (xOf M) 10):QM (xOf M) p s l O where
 mem v hv:=(h.2 v hv).1
 ok v hv:=⟨(h.2 v hv).2.1.1,(h.2 v hv).2.2.1,(h.2 v hv).2.1.2.2⟩
 prev v hv hk hr:=by
  obtain⟨k,hkv⟩:=List.mem_iff_getElem?.1 hv;have ha:=h.1 k v hkv;unfold DI at ha;rw[if_neg (by omega),eq_comm,Bool.and_eq_true]at ha;have hb:=ha.2;unfold EE at hb;rw[if_neg (by omega),if_neg (by omega),if_pos hk]at hb;unfold G7 at hb;rw[if_neg (by omega),Bool.or_eq_true,Bool.and_eq_true,Bool.and_eq_true]at hb;have hDX:∀w,w∈O.take k->w∈O:=fun w hw=>List.mem_of_mem_take hw
  rcases hb with⟨h1,h2⟩|⟨h1,h2⟩
  ·obtain⟨S,hS,hq,hw⟩:=Ms h1;refine⟨⟨S,hS,by omega,fun i hi hb=>?_⟩,?_⟩
   ·obtain⟨w,hw1,hw2,hw3⟩:=hw i hi hb;unfold QW Mb Lg at hw3;simp only[Bool.or_eq_true,Bool.and_eq_true,decide_eq_true_eq]at hw3;rcases hw3 with⟨e1,e2,e3⟩|⟨e1,e2,e3⟩
    ·exact⟨w,hDX w hw1,hw2,e1,e2,.inl (Gj e3)⟩
    ·exact⟨w,hDX w hw1,hw2,e1,e2,.inr e3⟩
   ·obtain⟨w,hw1,hw2⟩:=List.any_eq_true.1 h2;unfold pIn Mb at hw2;simp only[Bool.and_eq_true,decide_eq_true_eq]at hw2;exact⟨w,hDX w hw1,hw2.2.2.1,Gj hw2.2.2.2,.inl hw2.2.1⟩
  ·obtain⟨S,hS,hq,hw⟩:=Ms h1;refine⟨⟨S,hS,by omega,fun i hi hb=>?_⟩,?_⟩
   ·obtain⟨w,hw1,hw2,hw3⟩:=hw i hi hb;unfold Lg at hw3;simp only[Bool.and_eq_true,decide_eq_true_eq]at hw3;exact⟨w,hDX w hw1,hw2,hw3.1,hw3.2.1,.inr hw3.2.2⟩
   ·obtain⟨w,hw1,hw2⟩:=List.any_eq_true.1 h2;unfold Ly at hw2;simp only[Bool.and_eq_true,decide_eq_true_eq]at hw2;exact⟨w,hDX w hw1,hw2.2.1,Gj hw2.2.2,.inr hw2.1⟩
 prec v hv hk hc:=by
  obtain⟨k,hkv⟩:=List.mem_iff_getElem?.1 hv;have ha:=h.1 k v hkv;unfold DI at ha;rw[if_neg (fun hh=>hc hh.2),eq_comm,Bool.and_eq_true]at ha;have hb:=ha.2;unfold EE at hb;rw[if_neg (by omega),if_neg (by omega),if_neg (by omega)]at hb;obtain⟨S,hS,hq,hw⟩:=Ms hb;have hp:=KK hx;obtain⟨i,hi,ht⟩:=I2 10 (show 0<Aw S 10 by omega);obtain⟨w,hw1,hw2,hw3⟩:=hw i hi ht;unfold KU JD at hw3;simp only[Bool.and_eq_true,decide_eq_true_eq]at hw3;exact⟨w,List.mem_of_mem_take hw1,hw3.1.1,hw3.1.2,Gj hw3.2⟩
end
section

def Vs(M:Int)(par:Nm)(P:PrS):Prop:=P.dec.length<=10/\(P.dd=true->∃(l:List Vt) (L:List Oc),(∀v∈l,v∈P.D)/\Rt M par l L true/\P.dec=L.map Fm)
theorem Vs.more{M:Int}{par:Nm}{P P':PrS}(h:Vs M par P)(h1:P'.dec=P.dec)(h2:P'.dd=P.dd)(h3:∀v∈P.D,v∈P'.D):Vs M par P':=by
 refine⟨by rw[h1];exact h.1,fun hd=>?_⟩;obtain⟨l,L,a,b,c⟩:=h.2 (by rw[<-h2];exact hd);exact⟨l,L,fun v hv=>h3 v (a v hv),b,by rw[h1];exact c⟩
structure PlI (n:Nat)(T0 L0:Int)(s:Nm)(T:Nat)(G:GmS):Prop where
 inv:Kk n T G
 M:G.M=((2^n:Nat):Int)-1
 hon:G.hon=Vq G.M T0 L0
 par:G.par=OB s
 sd:G.ks.map (·.seed)=(List.range n).map (ME s)
 dec:∀(i b:Nat) (P:PrS),G.ps[i]? =some (b,P)->Vs G.M G.par P
theorem Ts(y:BitVec 64):xOf (IntKind.i64.wrap (y.toNat:Int))=y.toNat%2^10:=by
 unfold xOf;rw[IntKind.wrap_i64];have:=y.isLt;omega
theorem Kn(y:BitVec 64)(i:Nat)(hi:i<10):(xOf (IntKind.i64.wrap (y.toNat:Int))).testBit i=y.getLsbD i:=by
 rw[Ts,Nat.testBit_mod_two_pow,decide_eq_true hi,Bool.true_and];rfl
theorem Mt(a b:Int)(i:Nat)(hi:i<10):(xOf (bits .and .i64 a b)).testBit i=((xOf a).testBit i&&(xOf b).testBit i):=by
 rw[show bits .and .i64 a b=IntKind.i64.wrap ((BitVec.ofInt 64 a&&& BitVec.ofInt 64 b).toNat:Int)from rfl,Kn _ i hi,BitVec.getLsbD_and,GL a i hi,GL b i hi]
theorem Xc(a b:Int)(i:Nat)(hi:i<10):(xOf (bits .or .i64 a b)).testBit i=((xOf a).testBit i||(xOf b).testBit i):=by
 rw[show bits .or .i64 a b=IntKind.i64.wrap ((BitVec.ofInt 64 a|||BitVec.ofInt 64 b).toNat:Int)from rfl,Kn _ i hi,BitVec.getLsbD_or,GL a i hi,GL b i hi]
theorem Pc(a b:Int)(i:Nat)(hi:i<10):(xOf (bits .andNot .i64 a b)).testBit i=((xOf a).testBit i&&!(xOf b).testBit i):=by
 rw[show bits .andNot .i64 a b=IntKind.i64.wrap ((BitVec.ofInt 64 a&&& ~~~BitVec.ofInt 64 b).toNat:Int)from rfl,Kn _ i hi,BitVec.getLsbD_and,BitVec.getLsbD_not,GL a i hi,GL b i hi,decide_eq_true (show i<64 by omega),Bool.true_and]
theorem Vu{n:Nat}(hn:n<=7)(i:Nat):(xOf (((2^n:Nat):Int)-1)).testBit i=decide (i<n):=by
 have e:xOf (((2^n:Nat):Int)-1)=2^n-1:=by
  have h1:2^n<=2^7:=Nat.pow_le_pow_right (by omega) hn;have h2:0<2^n:=Nat.two_pow_pos n;unfold xOf;omega
 rw[e,Nat.testBit_two_pow_sub_one]
theorem Vv{s n:Nat}(hn:n<=10)(h:∀i,n<=i->i<10->s.testBit i=false):CV s 10=CV s n:=by
 have key:∀d,n+d<=10->CV s (n+d)=CV s n:=by
  intro d
  induction d with
  |zero=>intro _;rfl
  |succ d ih=>
   intro hd;rw[show n+(d+1)=(n+d)+1 from rfl,Fg (h (n+d) (by omega) (by omega)),ih (by omega)]
 have:=key (10-n) (by omega);rwa[show n+(10-n)=10 by omega]at this
theorem H6{l:List VS}{v:Vt}:v∈(B8 l).map (·.1)↔v∈l.map (·.1):=Dc l v
theorem PrS.D_sub{P P':PrS}{X:List VS}(h:P'.L.map Sg.vs=B8 (P.L.map Sg.vs++X)):∀v∈P.D,v∈P'.D:=fun v hv=>by
 rw[Dc]at hv ⊢;rw[h,H6,Ae];exact BW _ hv
section
variable {n T:Nat}{T0 L0:Int}{s:Nm}{G G':GmS}
theorem PlI.good(h:PlI n T0 L0 s T G)(hT:T<=100):GoodG G:=by
 refine⟨by have:=h.inv.psn;have:=h.inv.n1;omega,fun i b P hi=>⟨by have:=h.inv.len hi;omega,fun x hx=>(h.inv.held i b P hi x hx).1⟩⟩
theorem PlI.new(h:Pb n T0 L0 s G)(hn:1<=n/\n<=7):PlI n T0 L0 s 0 G:=by
 obtain⟨ms,hms,hps⟩:=h.ps;have hM:=h.M;have hMb:∀i,(xOf G.M).testBit i=decide (i<n):=fun i=>by rw[hM];exact Vu hn.2 i
 have hid:CV (xOf (bits .and .i64 G.M T0)) 10=CV (xOf (bits .and .i64 G.M T0)) n:=Vv (by omega) (fun i h1 h2=>by
  rw[Mt _ _ i h2,hMb,decide_eq_false (by omega),Bool.false_and])
 have hgl:G.ps.length=ms.length:=by
  have:=congrArg List.length hps;rwa[AX,AX,Gi]at this
 have hml:ms.length=n+(CV (xOf (bits .and .i64 G.M T0)) n).length:=by rw[hms,hid,AF,List.length_range]
 have hp:∀(i b:Nat) (P:PrS),G.ps[i]? =some (b,P)->∃(m:Nat) (y:Nm),P=FV (m,y)/\ms[i]? =some m:=fun i b P hi=>by
  have h1:=congrArg (fun l=>l[i]?) hps;simp only[AQ,hi,Option.map_some]at h1;obtain⟨⟨m,y⟩,h2,h3⟩:=Option.map_eq_some_iff.1 h1.symm;exact⟨m,y,h3.symm,(Qt h2).1⟩
 have hm:∀i m,ms[i]? =some m->m<n/\(i<n->m=i)/\(n<=i->G.hb m=false):=fun i m hi=>by
  rw[hms,List.getElem?_append,List.length_range]at hi;by_cases hin:i<n
  ·rw[if_pos hin,List.getElem?_range hin]at hi;injection hi with hi
   exact⟨by omega,fun _=>hi.symm,fun _=>by omega⟩
  ·rw[if_neg hin,hid]at hi;obtain⟨h1,h2⟩:=I5.1 (AM hi);rw[Mt _ _ m (by omega),Bool.and_eq_true]at h2;refine⟨h1,fun h=>absurd h hin,fun _=>?_⟩;show(xOf G.hon).testBit m=false;rw[h.hon,Pc _ _ m (by omega),Xc _ _ m (by omega),h2.2,Bool.true_or];simp
 have hsg:∀(m:Nat) (y:Value×List Vt),G.sg[m]? =some y->y.2=[]:=fun m y hm=>by
  rw[h.sg]at hm;rw[List.getElem?_replicate]at hm;split at hm
  ·injection hm with hm
   rw[<-hm]
  ·cases hm
 refine⟨⟨⟨hn.1,by omega⟩,?_,?_,?_,?_,?_,?_,?_,?_,?_,?_,?_⟩,hM,h.hon,h.par,h.ks,?_⟩
 ·have:=congrArg List.length h.ks;rwa[AX,AX,List.length_range]at this
 ·rw[h.sg,List.length_replicate]
 ·have:=GV (xOf (bits .and .i64 G.M T0)) n;omega
 ·intro i b P hi;obtain⟨m,y,rfl,h2⟩:=hp i b P hi;exact hm i m h2
 ·intro i b P hi;obtain⟨m,y,rfl,h2⟩:=hp i b P hi;exact⟨by show 0<=1024;omega,by show(0:Int)<=0;omega,by show(0:Int)<=((0:Nat):Int);omega⟩
 ·intro i b P hi;obtain⟨m,y,rfl,h2⟩:=hp i b P hi;exact GR rfl
 ·intro i b P hi x hx;obtain⟨m,y,rfl,h2⟩:=hp i b P hi;cases hx
 ·intro m y hy v hv;rw[hsg m y hy]at hv;cases hv
 ·intro m b P y _ _ hy v hv;rw[hsg m y hy]at hv;cases hv
 ·intro m y _ hy u hu;rw[hsg m y hy]at hu;cases hu
 ·rw[h.sg];simp
 ·intro i b P hi;obtain⟨m,y,rfl,h2⟩:=hp i b P hi;exact⟨by show 0<=10;omega,fun h=>by cases h⟩
theorem PlI.dcd(h:PlI n T0 L0 s T G)(hd:Dd G.ps.length G G'):PlI n T0 L0 s T G':=by
 obtain⟨ps',rfl,hl,hx⟩:=hd;have hx':∀(i b:Nat) (P':PrS),ps'[i]? =some (b,P')->∃P,G.ps[i]? =some (b,P)/\Ya G P P':=fun i b P' hi=>by
  obtain⟨P,h1,h2⟩:=hx i b P' hi;rw[if_pos (AE.1 h1).1]at h2;exact⟨P,h1,h2⟩
 refine⟨h.inv.share (AB _) rfl rfl rfl hl (fun i b P' hi=>?_),h.M,h.hon,h.par,h.sd,fun i b P' hi=>?_⟩
 ·obtain⟨P,h1,v,d,ok,rfl,_⟩:=hx' i b P' hi;have hf:=h.inv.leaf i b P h1;exact⟨b,P,h1,rfl,rfl,hf.2.1,hf.2.2,h.inv.can i b P h1,fun v hv=>hv,h.inv.held i b P h1⟩
 ·obtain⟨P,h1,v,d,ok,he,⟨_,rfl⟩|⟨_,L,hL,hD,hd⟩⟩:=hx' i b P' hi
  ·exact h.dec i b P' h1
  ·subst he;refine⟨by show d.length<=10;rw[hd,AX];exact hL,fun ho=>?_⟩;have ho:ok=true:=ho;subst ho;exact⟨P.D,L,fun v hv=>hv,hD,hd⟩
theorem PlI.addTo{X:List VS}{idx:List Nat}{k:Nat}(h:PlI n T0 L0 s T G)(hX:∀x∈X,Ii G.ks G.sg x)(ha:Ex X idx k G G'):PlI n T0 L0 s T G':=by
 obtain⟨ps',rfl,hl,hx⟩:=ha;refine⟨h.inv.share (AB _) rfl rfl rfl hl (fun i b P' hi=>?_),h.M,h.hon,h.par,h.sd,fun i b P' hi=>?_⟩
 ·obtain⟨P,h1,⟨_,v,L,rfl,hL⟩|⟨_,rfl⟩⟩:=hx i b P' hi
  ·have hf:=h.inv.leaf i b P h1;refine⟨b,P,h1,rfl,rfl,hf.2.1,hf.2.2,by show B8 (L.map Sg.vs)=L.map Sg.vs;rw[hL,MD],PrS.D_sub (P':=P.more v L) hL,fun x hxm=>?_⟩;have hm:x.vs∈L.map Sg.vs:=List.mem_map_of_mem hxm;rw[hL]at hm;rcases AP.1 ((DE _).sub _ hm)with hm|hm
   ·obtain⟨y,hy,e⟩:=List.mem_map.1 hm;rw[<-e];exact h.inv.held i b P h1 y hy
   ·exact hX _ hm
  ·have hf:=h.inv.leaf i b P' h1;exact⟨b,P',h1,rfl,rfl,hf.2.1,hf.2.2,h.inv.can i b P' h1,fun v hv=>hv,h.inv.held i b P' h1⟩
 ·obtain⟨P,h1,⟨_,v,L,rfl,hL⟩|⟨_,rfl⟩⟩:=hx i b P' hi
  ·exact(h.dec i b P h1).more rfl rfl (PrS.D_sub (P':=P.more v L) hL)
  ·exact h.dec i b P' h1
theorem PlI.meet{idx:List Nat}{k:Nat}(h:PlI n T0 L0 s T G)(ha:JI idx k G G'):PlI n T0 L0 s T G':=by
 refine h.addTo (fun x hx=>?_) ha;obtain⟨y,hy,rfl⟩:=List.mem_map.1 hx;obtain⟨i,_,hy⟩:=List.mem_flatMap.1 hy;unfold GmS.PL at hy;rw[List.getD_eq_getElem?_getD,AQ]at hy;rcases hi:G.ps[i]? with _|⟨b,P⟩
 ·rw[hi]at hy;simp at hy
 ·rw[hi]at hy;exact h.inv.held i b P hi y hy
theorem PlI.later{T':Nat}(h:PlI n T0 L0 s T G)(hT:T<=T'):PlI n T0 L0 s T' G:=
 ⟨h.inv.share hT rfl rfl rfl rfl (fun i b P hi=>⟨b,P,hi,rfl,rfl,(h.inv.leaf i b P hi).2.1,by have:=(h.inv.leaf i b P hi).2.2;omega,h.inv.can i b P hi,fun v hv=>hv,h.inv.held i b P hi⟩),h.M,h.hon,h.par,h.sd,h.dec⟩
theorem PlI.lied{m:Nat}{v:Vt}{sv0 vs:Value}{sl:List Vt}(h:PlI n T0 L0 s T G)(hm:G.sg[m]? =some (sv0,sl))(hh:G.hb m=false)(hv:Ab v)(hs:v.signer=(m:Int)):PlI n T0 L0 s (T+1) (G.setS m vs (sl++[v])):=by
 have hI:=h.inv;have hne:∀m',G.hb m'=true->m≠m':=fun m' h1 e=>by rw[<-e,hh]at h1;cases h1
 refine⟨⟨hI.n1,hI.kn,by show(G.sg.set _ _).length=n;rw[List.length_set];exact hI.sgn,hI.psn,hI.mem,fun i b P hi=>?_,hI.can,fun i b P hi x hx=>(hI.held i b P hi x hx).more hm,fun m' y hy u hu=>?_,fun m' b P y h1 h2 hy=>?_,fun m' y h1 hy=>?_,?_⟩,h.M,h.hon,h.par,h.sd,h.dec⟩
 ·have:=hI.leaf i b P hi;exact⟨this.1,this.2.1,by have:=this.2.2;omega⟩
 ·rcases B0 hy with⟨rfl,rfl⟩|⟨_,hy⟩
  ·rcases AP.1 hu with hu|hu
   ·exact hI.sgd _ _ hm u hu
   ·rw[AU.1 hu];exact⟨hv,hs⟩
  ·exact hI.sgd m' y hy u hu
 ·rcases B0 hy with⟨e,_⟩|⟨_,hy⟩
  ·exact absurd e (hne m' h1)
  ·exact hI.keep m' b P y h1 h2 hy
 ·rcases B0 hy with⟨e,_⟩|⟨_,hy⟩
  ·exact absurd e (hne m' h1)
  ·exact hI.uniq m' y h1 hy
 ·have e1:=KE (fun y:Value×List Vt=>y.2.length) G.sg m _ (vs,sl++[v]) hm;have:=hI.cnt;show((G.sg.set m (vs,sl++[v])).map fun y=>y.2.length).sum<=(G.ps.map fun p=>p.2.leaf).sum+(T+1);simp only[AF,List.length_singleton]at e1;omega
theorem PlI.lie{idx:List Nat}{v:Vt}(h:PlI n T0 L0 s T G)(hb:To G.ks.length G.hon v=false)(hl:Yb idx v G G'):PlI n T0 L0 s (T+1) G':=by
 obtain⟨m,y,sv0,sl,vs,h1,h2,h3,h4⟩:=hl;unfold To at hb;rw[Bool.or_eq_false_iff,Bool.or_eq_false_iff,Bool.not_eq_false',decide_eq_true_eq,h1,Int.toNat_natCast]at hb;have hL:PlI n T0 L0 s (T+1) (G.setS m vs (sl++[v])):=h.lied h3 hb.2.2 hb.1 h1;refine hL.addTo (fun x hx=>?_) h4;rw[AU.1 hx];exact⟨hb.1,m,(vs,sl++[v]),y,1023,h1,List.getElem?_set_self (AE.1 h3).1,Bc _ (AU.2 rfl),h2,by omega,rfl⟩
theorem PlI.actd{i b:Nat}{P:PrS}(h:PlI n T0 L0 s T G)(hi:G.ps[i]? =some (b,P)):PlI n T0 L0 s (T+1) (G.actd i b P):=by
 refine⟨h.inv.share (by omega) rfl rfl rfl (by show(G.ps.set _ _).length=_;rw[List.length_set]) (fun j b' P' hj=>?_),h.M,h.hon,h.par,h.sd,fun j b' P' hj=>?_⟩
 ·rcases B0 hj with⟨rfl,e⟩|⟨_,hj⟩
  ·injection e with e1 e2
   subst e1;subst e2;have hf:=h.inv.leaf i b' P hi;exact⟨b',P,hi,rfl,rfl,by show 0<=P.acts+1;omega,by show P.acts+1<=((T+1:Nat):Int);omega,h.inv.can i b' P hi,fun v hv=>hv,h.inv.held i b' P hi⟩
  ·have hf:=h.inv.leaf j b' P' hj;exact⟨b',P',hj,rfl,rfl,hf.2.1,by omega,h.inv.can j b' P' hj,fun v hv=>hv,h.inv.held j b' P' hj⟩
 ·rcases B0 hj with⟨rfl,e⟩|⟨_,hj⟩
  ·injection e with e1 e2
   subst e1;subst e2;exact(h.dec i b' P hi).more rfl rfl (fun v hv=>hv)
  ·exact h.dec j b' P' hj
theorem PlI.sgn{i:Nat}{v:Vt}(h:PlI n T0 L0 s T G)(hs:N5 i v G G')(hf:∀(b:Nat) (P:PrS),G.ps[i]? =some (b,P)->v.signer=(P.mem:Int)/\Qp P v):PlI n T0 L0 s T G':=by
 have hI:=h.inv.sgn' hs hf;obtain⟨b,P,k,sv0,sl,va,vs,L,h1,h2,h3,h4,h5,rfl⟩:=hs;refine⟨hI,h.M,h.hon,h.par,h.sd,fun j b' P' hj=>?_⟩;rcases B0 hj with⟨rfl,e⟩|⟨_,hj⟩
 ·injection e with e1 e2
  subst e1;subst e2;exact(h.dec i b' P h1).more rfl rfl (PrS.D_sub (P':=P.signd va L) h5)
 ·exact h.dec j b' P' hj
theorem Pd{par pay:Nm}{P:PrS}(h:Gy par P.mem P.D=false):Qp P (N4 par P.mem pay):=fun u hu hk=>by
 obtain⟨h1,h2,_,h4,h5⟩:=hk;unfold Gy at h;rw[List.any_eq_false]at h;refine h u hu ?_;rw[show u.kind=1 from h1,show u.slot=(P.mem:Int)from h2,show u.signer=(P.mem:Int)from h4,show u.parent=par from h5];simp
theorem PX.noKey{i:Nat}{v:Vt}(h:PlI n T0 L0 s T G)(hd:PX i G (some v)):∀(b:Nat) (P:PrS),G.ps[i]? =some (b,P)->v.signer=(P.mem:Int)/\Qp P v:=fun b P hi=>by
 obtain⟨b',P',h1,h2⟩:=hd;rw[hi]at h1;injection h1 with h1
 injection h1 with h1 h1'
 subst h1;subst h1';obtain⟨sl,_,_,d2,d3,d4,d5⟩:=h2.due (PrS.D_valid fun x hx=>(h.inv.held i b P hi x hx).1);refine⟨d3,fun u hu hk=>?_⟩;obtain⟨k1,k2,k3,k4,k5⟩:=hk;unfold owF at d5;rw[List.any_eq_false]at d5;refine d5 u (List.mem_filter.2 ⟨hu,?_⟩) ?_
 ·rw[k2,k5,d2,d4];simp
 ·rw[k1,k3,k4,d3];simp
end
end
end Go.Proofs.YtadllffeoibelaaGreat
