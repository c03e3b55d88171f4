/-
  Parts of the proof. No condition.
-/
import Derived.Test.YtadllffeoibelaaGreatS26
import Derived.Deep.RegionLawGrows
open Go.Proofs.Tryz
namespace Go.Proofs.YtadllffeoibelaaGreat
set_option maxRecDepth 100000
set_option maxHeartbeats 32000000
set_option linter.all false
section
open Go.RowKit
attribute [local go_sem ↓] Go.wp_at_zero Go.wp_at_succ Aq Au Av Aw
attribute [local go_sem] BE BL BM BN AR AX AU
structure Cfg where
 n:Int
 T:Int
 L:Int
 seed:Nm
abbrev Cfg.cells(c:Cfg):Array Value:=#[I c.n,I c.T,I c.L,B c.seed.b0,B c.seed.b1,B c.seed.b2,B c.seed.b3,B c.seed.b4,B c.seed.b5,B c.seed.b6,B c.seed.b7]
abbrev Cfg.val(c:Cfg):Value:=.agg c.cells
abbrev Cq:Value:=.slice none 0 0
abbrev FB(x:Nat×Nm):PrS:=⟨Cq,[],x.1,0,0,x.2,Cq,[],false⟩
def K4(s:Nm)(m:Nat):Nm:=D3 (66::(s.bytes++[UInt8.ofNat m]))
def IA(s:Nm)(p:Nat):Nm:=D3 (68::(s.bytes++[UInt8.ofNat p]))
def Mm(s:Nm):Nm:=D3 (67::s.bytes)
def msF(s:Nm)(ms:List Nat)(p:Nat):List (Nat×Nm):=ms.mapIdx fun k m=>(m,if k<p then IA s k else Nm.zero)
theorem Mn(s:Nm)(ms:List Nat)(m:Nat):msF s (ms++[m]) 0=msF s ms 0++[(m,Nm.zero)]:=by
 unfold msF;rw[List.mapIdx_append];simp
theorem Ts(s:Nm)(ms:List Nat)(p m:Nat)(h:ms[p]? =some m):(msF s ms p).set p (m,IA s p)=msF s ms (p+1):=by
 unfold msF;apply List.ext_getElem?;intro k;rw[List.getElem?_set,List.length_mapIdx,List.getElem?_mapIdx,List.getElem?_mapIdx];have hl:=(AF.1 h).1;by_cases hk:p=k
 ·subst hk;rw[if_pos rfl,if_pos hl,h];simp
 ·rw[if_neg hk];cases ms[k]? with
  |none=>rfl
  |some x=>
   simp only[Option.map_some];by_cases h1:k<p
   ·rw[if_pos h1,if_pos (by omega)]
   ·rw[if_neg h1,if_neg (by omega)]
theorem GS(s:Nm)(ms:List Nat)(p:Nat):(msF s ms p).length=ms.length:=by unfold msF;exact List.length_mapIdx
theorem PB{s:Nm}{ms:List Nat}{p k:Nat}{x:Nat×Nm}(h:(msF s ms p)[k]? =some x):ms[k]? =some x.1/\x.2=(if k<p then IA s k else Nm.zero):=by
 unfold msF at h;rw[List.getElem?_mapIdx]at h;cases hm:ms[k]? with
 |none=>rw[hm]at h;cases h
 |some m=>
  rw[hm]at h;simp only[Option.map_some]at h;injection h with h
  subst h;exact⟨rfl,rfl⟩
theorem QS:(prog.info? 112).map (fun i=>(i.zero,i.size,i.bytes))=some (some (.pointer none),1,8):=by kernel_rfl
theorem K5:(prog.info? 98).map (fun i=>(i.zero,i.size,i.bytes))=some (some (.pointer none),1,8):=by kernel_rfl
theorem SC:(prog.info? 56).map (fun i=>(i.zero,i.size,i.bytes))=some (some (.slice none 0 0),1,24):=by kernel_rfl
theorem QT:(prog.info? 90).map (·.size)=some 1:=by kernel_rfl
theorem SD:∀n,n<=7->(madeCells (Value.slice none 0 0).cells n).toList=List.replicate n (.slice none 0 0):=fun n h=>by
 rcases(by omega:n=0∨n=1∨n=2∨n=3∨n=4∨n=5∨n=6∨n=7)with rfl|rfl|rfl|rfl|rfl|rfl|rfl|rfl <;> kernel_rfl
theorem Wd(n:Nat)(hn:n<=7)(W:World):(Instr.makeSlice 71 (.int .i64 (n:Int)) (.int .i64 (n:Int))).run prog W= .ok (.slice (some ⟨W.heap.size,0,none⟩) n n) (W.alloc (.cells (madeCells (Value.slice none 0 0).cells n) 56)):=by
 obtain⟨i0,hi,hz0,hz1,hz2⟩:=info_parts SC;have:=run_makeSlice (P:=prog) (w:=W) 71 56 i0 (.slice none 0 0) underlying71 hi hz0 .i64 .i64 (n:Int) (n:Int) (by omega) (by omega) (by rw[hz1];simp;omega) (by rw[hz2];omega) (by omega);rw[this,hz1];simp
theorem Mo{o:Oper}{a:Act}(M:Int)(p:Nm)(A:Option Addr)(n c:Nat)(x0 x2 x5:Operand)(ho:o.op= .build 93 #[(0,x0),(2,x2),(5,x5)])(h0:a.eval x0= .int .i64 M)(h2:a.eval x2= .agg p.cells)(h5:a.eval x5= .slice A n c)(w:World):(execOp a.eval o).run prog w= .ok (.value (.agg (GmS.cells ⟨M,0,p,Cq,Cq,.slice A n c,[],[],[]⟩))) w:=by
 unfold execOp;rw[ho];simp only[List.map_toArray,List.map_cons,List.map_nil,h0,h2,h5];go_simp
theorem Mp{o:Oper}{a:Act}(x:Operand)(i:Nat)(ho:o.op= .convert 3 5 x)(hx:a.eval x= .int .i64 (i:Int))(hi:i<=255)(w:World):(execOp a.eval o).run prog w= .ok (.value (.int .u8 (i:Int))) w:=by
 have hw:IntKind.u8.wrap (i:Int)=(i:Int):=by rw[IntKind.wrap_u8];omega
 unfold execOp;rw[ho];simp only[hx];go_simp
theorem ED{o:Oper}{a:Act}{w:World}(x:Operand)(ho:o.op= .load 90 x)(g i:Nat)(hx:a.eval x= .pointer (some ⟨g,i,none⟩))(u:Value)(hc:w.cell? ⟨g,i,none⟩=some u):(execOp a.eval o).run prog w= .ok (.value u) w:=by
 unfold execOp;rw[ho];simp only[hx];go_simp
abbrev Tt(M T L:Int):Int:=bits .andNot .i64 M (bits .or .i64 T L)
structure N2 (n:Nat)(T L:Int)(s:Nm)(G:GmS):Prop where
 M:G.M=((2^n:Nat):Int)-1
 hon:G.hon=Tt G.M T L
 par:G.par=Mm s
 ks:G.ks.map (·.seed)=(List.range n).map (K4 s)
 ps:∃ms:List Nat,ms=List.range n++CK (xOf (bits .and .i64 G.M T)) 10/\G.ps.map (·.2)=(msF s ms ms.length).map FB
 sg:G.sg=List.replicate n (Cq,[])
def SE(Bs g q:Nat)(C:Cfg)(M hon:Int)(par:Nm)(sv:Value)(n:Nat)(ksd:List Nm)(ms:List (Nat×Nm))(w wr:World):Prop:=
 ∃(kv pv:Value) (ks:List KyS) (ps:List (Nat×PrS)),Ax Bs wr g ⟨M,hon,par,kv,pv,sv,ks,ps,List.replicate n (Cq,[])⟩/\ks.map (·.seed)=ksd/\ps.map (·.2)=ms.map FB/\Blk wr q 26 C.cells/\Below Bs w wr
theorem PC{Bs b:Nat}{w:World}{x:Nat×Nm}(h:Blk w b 97 (FB x).cells):C7 Bs w b (FB x):=
 ⟨h,⟨by simp,.inl ⟨rfl,rfl⟩⟩,fun s hs=>(by cases hs),⟨by simp,.inl ⟨rfl,rfl⟩⟩⟩
theorem Ax.ks_lt{Bs g:Nat}{w:World}{G:GmS}(h:Ax Bs w g G):∀k∈G.ks,k.m<w.heap.size:=fun k hk=>by
 obtain⟨i,hi⟩:=List.getElem?_of_mem hk;obtain⟨_,_,tl,hM,_⟩:=(h.keys i k hi).1;exact hM.lt
theorem Ax.ps_lt{Bs g:Nat}{w:World}{G:GmS}(h:Ax Bs w g G):∀p∈G.ps,p.1<w.heap.size:=fun p hp=>by
 obtain⟨i,hi⟩:=List.getElem?_of_mem hp;exact(h.prs i p hi).1.blk.lt
theorem C7.payd{Bs b:Nat}{w w':World}{P:PrS}{s:Nm}(h:C7 Bs w b P)(hw:w'=w.setCells b 4 s.cells.toList):C7 Bs w' b {P with pay:=s}/\w.grownBy w' (some b):=by
 obtain⟨_,hg,_⟩:=Cr b 97 s.cells.toList 4 w P.cells h.blk;rw[<-hw]at hg;refine⟨⟨?_,BK h.row hg (.blk h.blk (by decide)),fun x hx=>(h.sgs x hx).off hg (.blk h.blk (by decide)),BK h.dec hg (.blk h.blk (by decide))⟩,hg⟩;rw[hw];have h1:=(((((((h.blk.put 4 (B s.b0)).put 5 (B s.b1)).put 6 (B s.b2)).put 7 (B s.b3)).put 8 (B s.b4)).put 9 (B s.b5)).put 10 (B s.b6)).put 11 (B s.b7);simp only[World.setCells];simpa using h1
theorem Tu{w:World}{b:Nat}{P:PrS}(h:Blk w b 97 P.cells):w.there b 4 8:=fun j hj=>⟨by
 rw[h.cell];rcases(by omega:j=0∨j=1∨j=2∨j=3∨j=4∨j=5∨j=6∨j=7)with rfl|rfl|rfl|rfl|rfl|rfl|rfl|rfl <;> rfl,h.frozen _⟩
theorem Lp{op:Oper}{a:Act}{w:World}{K:Act->World->Prop}{Q:Exit->Act->World->Prop}(x y:Operand)(ho:op.op= .store 24 x y)(b:Nat)(P:PrS)(s:Nm)(hx:a.eval x= .pointer (some ⟨b,4,none⟩))(hy:a.eval y= .agg s.cells)(hB:Blk w b 97 P.cells)(hd:op.dst=none)(h:K a (w.setCells b 4 s.cells.toList)):op.wp prog a w K Q:=by
 refine wp_store_mid 24 x y ho b 4 s.cells hx hy (Tu hB) Ap (Array.all_eq_true_iff_forall_mem.2 fun v hv=>GG s (by simpa using hv)) ?_;rw[hd];exact h
theorem Rd.seed{w:World}{q:Nat}{C:Cfg}(h:Blk w q 26 C.cells):Rd w w.heap.size (some ⟨q,3,none⟩) (C.seed.bytes.map B):=Rd.of_blk h 3 8
theorem K6{w:World}{q:Nat}{C:Cfg}(h:Blk w q 26 C.cells):∀b,some (⟨q,3,none⟩:Addr)=some b->∀j u,(C.seed.bytes.map B)[j]? =some u->w.cell? (b.add j)=some u:=fun b hb j u hu=>by
 injection hb with hb
 subst hb;rw[Addr.add_mid,h.cell];have hj:j<8:=by
  have:=(AF.1 hu).1;simpa[Nm.bytes]using this
 rcases(by omega:j=0∨j=1∨j=2∨j=3∨j=4∨j=5∨j=6∨j=7)with rfl|rfl|rfl|rfl|rfl|rfl|rfl|rfl <;> exact hu
theorem PD(n:Nat)(hn:1<=n/\n<=7)(T L:Int)(s:Nm)(w:World):Calls prog 27 #[(Cfg.mk (n:Int) T L s).val] w fun e w'=>∃g G,e= .returned (.tuple #[At g,.int .i64 0])/\Wx w w'/\Ax w.heap.size w' g G/\N2 n T L s G:=by
 obtain⟨C,hC⟩:=Wr (Cfg.mk (n:Int) T L s);rw[<-hC];have hCn:C.n=(n:Int):=by rw[hC]
 have hCT:C.T=T:=by rw[hC]
 have hCL:C.L=L:=by rw[hC]
 have hCs:C.seed=s:=by rw[hC]
 obtain⟨Bs,hBs⟩:=Wr w.heap.size;obtain⟨w1,hw1⟩:=Wr (w.alloc (.cells C.cells 26));have hb1:Below Bs w w1:=by rw[hw1];exact(AC _ _).alloc (by omega) _
 have yE:Bs<=w1.heap.size:=by rw[hBs];exact hb1.size
 obtain⟨q,hq⟩:=Wr w.heap.size;have hqB:Bs<=q:=by omega
 have hQ1:Blk w1 q 26 C.cells:=by rw[hw1,hq];exact Blk.new w _ _
 have y0:w1.cell? ⟨q,0,none⟩=some (.int .i64 (n:Int)):=by rw[<-hCn];exact hQ1.cell 0
 have d1:decide ((n:Int)<1)=false:=by simp;omega
 have d2:decide (7<(n:Int))=false:=by simp;omega
 obtain⟨M,hM⟩:∃M:Int,M=((2^n:Nat):Int)-1:=⟨_,rfl⟩;have hM7:0<=M/\M<=127:=by
  rw[hM];rcases(by omega:n=1∨n=2∨n=3∨n=4∨n=5∨n=6∨n=7)with rfl|rfl|rfl|rfl|rfl|rfl|rfl <;> decide
 have hwm:IntKind.i64.wrap ((2:Int)^n-1)=M:=by
  have e:(2:Int)^n=((2^n:Nat):Int):=by simp
  rw[e,<-hM,IntKind.wrap_i64];omega
 have hmk:=Wd n hn.2;obtain⟨mc,hmc⟩:=Wr (madeCells (Value.slice none 0 0).cells n);rw[<-hmc]at hmk;have hGv:mc.size=n:=by rw[hmc];exact size_madeCells _ _
 have hGw:mc.toList=List.replicate n (.slice none 0 0):=by rw[hmc];exact SD n hn.2
 obtain⟨par,zJ⟩:=Ws (Mm C.seed);have HTg:Hid (∀V,Blk V q 26 C.cells->Calls prog 50 #[.int .u8 67,.slice (some ⟨q,3,none⟩) 8 8] V (BW V par)):=fun V hV=>CB 67 _ 8 C.seed.bytes par V (Rd.seed hV) (by simp[Nm.bytes]) zJ
 have HQ:Hid (∀V,Wx w1 V->Blk V q 26 C.cells):=fun V hV=>hQ1.below hV hQ1.lt
 have HX:Hid (∀V,Wx w1 V->V.cell? ⟨q,0,none⟩=some (.int .i64 (n:Int))):=fun V hV=>by rw[<-hCn];exact(hQ1.below hV hQ1.lt).cell 0
 have HCT:=AA hCT;have HCn:=AA hCn;have HCL:=AA hCL;have HCs:=AA hCs;have HW1:=AA hw1;have HQq:=AA hq;have HM:=AA hM;have HMc:=AA (And.intro hGv hGw);have HPar:=AA zJ;have HBs:=AA hBs;have hn1:=hn.1;have hn7:=hn.2;have hqw1:q<w1.heap.size:=hQ1.lt;clear hC hCn hCT hCL hCs hw1 hq hM hGv hGw hmc zJ hBs hn;go_enter func27,ntmps27;go_upto_region 1 with fail
 simp only[<-HW1.out,<-HQq.out];go_upto_region 3 with fail
 go_cut[4] (fun gv wx=>∃g sb,gv= .pointer (some ⟨g,0,none⟩)/\Blk wx g 93 (GmS.cells ⟨M,0,par,Cq,Cq,.slice (some ⟨sb,0,none⟩) n n,[],[],[]⟩)/\Blk wx sb 56 mc/\Bs<=g/\Bs<=sb/\Wx w1 wx)
 case first=>
  refine rgD (fun V=>V.cell? ⟨q,0,none⟩=some (.int .i64 (n:Int))) (HX.out _ (AC w1.heap.size w1).drew) fun _=>?_
  iterate 2 (refine tkA ?_;go_frame)
  refine tkV 19 2 (.int .i64 ((2^n:Nat):Int)) (fun wq _=>Hb (.tmp 18) n rfl rfl (by omega) wq) ?_;go_frame
  iterate 3 (refine tkA ?_;go_frame)
  refine tkD 24 7 ?_;go_frame;refine tkD 25 8 ?_;go_frame;refine rd2 6 9 (fun K hK=>?_) fun K hK=>?_
  go_simp;refine(HTg.out _ (HQ.out _ (AC w1.heap.size w1).drew)).mono ?_;rintro en w3 ⟨rfl,hb3⟩;have xj:Wx w1 w3:=((AC w1.heap.size w1).drew).trans (hb3.mono (Below.size (AC w1.heap.size w1).drew));go_wp2_with fail
  refine hK.out _ _ (HX.out _ xj) (fun _=>?_);clear hK K;try go_frame
  refine rd1 9 fun K hK=>?_
  go_simp;refine hK.out _ _ (HX.out _ (xj.alloc xj.size _)) (fun _=>?_);clear hK K;try go_frame
  have hS4:Blk (w3.alloc (.cells mc 56)) w3.heap.size 56 mc:=Blk.new w3 _ _;have zl:Wx w1 (w3.alloc (.cells mc 56)):=xj.alloc xj.size _;have zI:Bs<=w3.heap.size:=AG yE xj.size;generalize w3.alloc (.cells mc 56)=w4 at*;generalize w3.heap.size=sb at hS4 zI ⊢;rotate_left;go_simp;refine hK.out _ _ (HX.out _ ((AC w1.heap.size w1).alloc (AB _) _).drew) (fun _=>?_);clear hK K;try go_frame
  refine rd1 6 fun K hK=>?_
  go_simp;refine(HTg.out _ (HQ.out _ ((AC w1.heap.size w1).alloc (AB _) _).drew)).mono ?_;rintro en w4 ⟨rfl,hb3⟩;have zl:Wx w1 w4:=(((AC w1.heap.size w1).alloc (AB _) _).drew).trans (hb3.mono (Below.size ((AC w1.heap.size w1).alloc (AB _) _).drew));have hS4:Blk w4 w1.heap.size 56 mc:=Blk.below (w:=(w1.alloc (.cells mc 56)).drew) (Blk.new w1 _ _) hb3 (by simp);have zI:=yE;go_wp2_with fail
  refine hK.out _ _ (HX.out _ zl) (fun _=>?_);clear hK K;try go_frame
  obtain⟨sb,hsb⟩:=Ws w1.heap.size;rw[hsb]at hS4;rw[show((some ⟨w1.heap.size,0,none⟩:Option Addr))=some ⟨sb,0,none⟩from by rw[hsb]];replace zI:Bs<=sb:=hsb▸zI;clear hsb
  all_goals
   refine tkV 27 10 (.agg (GmS.cells ⟨M,0,par,Cq,Cq,.slice (some ⟨sb,0,none⟩) n n,[],[],[]⟩)) (fun wq _=>Mo M par (some ⟨sb,0,none⟩) n n (.tmp 20) (.tmp 23) (.tmp 26) rfl rfl rfl rfl wq) ?_;go_frame;refine rd1 11 fun K hK=>?_
   go_simp;refine hK.out _ _ (HX.out _ (zl.alloc zl.size _)) (fun _=>?_);clear hK K;try go_frame
   refine tkD 4 12 ?_;go_frame;refine dnD ?_;go_wp2_with fail
   go_meet;refine⟨_,_,rfl,Blk.new _ _ _,hS4.alloc _,?_,?_,zl.alloc zl.size _⟩
   ·exact AG yE zl.size
   ·exact zI
 case rest=>
  obtain⟨g,sb,rfl,hG3,hS3,hgB,hsB,xj⟩:=hcut;generalize wc=w3 at*;have hQ3:=HQ.out _ xj;have y1:w3.cell? ⟨g,0,none⟩=some (.int .i64 M):=hG3.cell 0;have y2:w3.cell? ⟨q,1,none⟩=some (.int .i64 T):=by rw[<-HCT.out];exact hQ3.cell 1
  have y3:w3.cell? ⟨q,2,none⟩=some (.int .i64 L):=by rw[<-HCL.out];exact hQ3.cell 2
  have y4:w3.cell? ⟨g,1,none⟩=some (.int .i64 0):=hG3.cell 1;have y5:w3.frozen? ⟨g,1,none⟩=false:=hG3.frozen 1;have HG3:=AA hG3;have HS3:=AA hS3;have HQ3:=AA hQ3;have xd:Below Bs w w3:=hb1.trans (xj.mono yE);have zj:Bs<=w3.heap.size:=AG yE xj.size;clear hG3 hS3 hQ3 hmk HTg HX y0;go_upto_region 4 with fail
  go_still_tail 13,(by kernel_rfl);change wpList _ _ _ _ _ w3.drew;go_upto_region 5 with fail
  obtain⟨hon,hBi⟩:=Wr (Tt M T L);obtain⟨w4',hw4⟩:=Wr (w3.setCell ⟨g,1,none⟩ (.int .i64 (Tt M T L)));rw[<-hw4];rw[<-hBi]at hw4;have hg4:w3.grownBy w4' (some g):=by rw[hw4];exact Bl (p:=⟨g,1,none⟩) (Al _ g) rfl _
  have hGx:Ax Bs w4' g ⟨M,hon,par,Cq,Cq,.slice (some ⟨sb,0,none⟩) n n,[],[],List.replicate n (Cq,[])⟩:=by
   have hB:Blk w3 g 93 _:=HG3.out;have hSb:Blk w4' sb 56 mc:=HS3.out.off hg4 (.blk hB (by decide));have nilR:∀{e size:Nat},w4'.ownsRow Bs e size Cq 0 []:=⟨by simp,.inl ⟨rfl,rfl⟩⟩;have rep:∀{i:Nat} {x:Value×List Vt},(List.replicate n ((Cq,[]):Value×List Vt))[i]? =some x->x=(Cq,[]):=fun h=>(List.mem_replicate.1 (AN h)).2
   refine⟨by rw[hw4];exact hB.put 1 _,nilR,nilR,?_,fun i k hk=>(by simp at hk),fun i p hp=>(by simp at hp),fun i x hx=>?_,fun i j k k' hk=>(by simp at hk),fun i j p p' hp=>(by simp at hp),fun i j x y k hx hy h1=>?_⟩
   ·show w4'.ownsRow Bs _ 1 _ (List.replicate n _).length ((List.replicate n _).map _);rw[List.length_replicate,List.map_replicate,<-HMc.out.2];exact⟨by simp[HMc.out.1],.inr ⟨sb,n,mc,rfl,hsB,hSb,AB _,by unfold maxLen;omega,by simp[HMc.out.1],AT (by simp[HMc.out.1])⟩⟩
   ·rw[rep hx];exact nilR
   ·rw[rep hx]at h1;simp[Value.ownBlock]at h1
  have hQ4:Blk w4' q 26 C.cells:=HQ3.out.off hg4 (.blk HG3.out (by decide));have yW:Below Bs w w4':=xd.grown hg4 zj (Wt hgB);obtain⟨w4,hw4d⟩:=Wr w4'.drew;rw[<-hw4d];have hG4:Ax Bs w4 g ⟨M,hon,par,Cq,Cq,.slice (some ⟨sb,0,none⟩) n n,[],[],List.replicate n (Cq,[])⟩:=by rw[hw4d];exact hGx.below (AC _ w4').drew
  have hQ4d:Blk w4 q 26 C.cells:=by rw[hw4d];exact hQ4
  have hb04d:Below Bs w w4:=by rw[hw4d];exact yW.drew
  obtain⟨sv,hsv⟩:=Wr (Value.slice (some ⟨sb,0,none⟩) n n);rw[<-hsv]at hG4;have hR4:SE Bs g q C M hon par sv n [] [] w w4:=⟨Cq,Cq,[],[],hG4,rfl,rfl,hQ4d,hb04d⟩;have z1:w4.cell? ⟨q,0,none⟩=some (.int .i64 (n:Int)):=by rw[<-HCn.out];exact hQ4d.cell 0
  have HR4:=AA hR4;have hAd:=AA hBi;obtain⟨i0,hi0,hz0,hz1,hz2⟩:=info_parts Bz;have HI0:=AA (And.intro hi0 (And.intro hz0 (And.intro hz1 hz2)));clear hw4 hg4 hGx hQ4 yW hw4d hG4 hQ4d hb04d hsv hR4 hBi HG3 HS3 HQ3 y1 y2 y3 y4 y5 hi0 hz0 hz1 hz2 HQ HMc HW1 HQq hwm d1 d2 hQ1 hb1 xj xd zj;go_wp2
  go_loopw [44] (fun iv wr=>∃i:Nat,iv= .int .i64 (i:Int)/\i<=n/\SE Bs g q C M hon par sv n ((List.range i).map (K4 s)) (msF s (List.range i) 0) w wr) (fun iv _=>n-(intOf iv).toNat)
  case atStart=>exact⟨0,rfl,Nat.zero_le _,HR4.out⟩
  case round=>
   obtain⟨i,rfl,hin,kv,pv,ks,ps,hG,hks,hps,hQ,hb⟩:=hrel;by_cases hi:i<n
   ·have di:=Wu (show i<n by omega)
    have hi7:i<7:=by omega
    have HKv:Hid (∀V,Wx wr V->V.cell? ⟨g,10,none⟩=some kv):=fun V hV=>(hG.blk.below hV hG.blk.lt).cell 10
    obtain⟨b1,hb1⟩:=Wr (UInt8.ofNat i);have HB1:Hid (B b1= .int .u8 (i:Int)):=by unfold Hid;rw[hb1];exact J2 i (by omega)
    obtain⟨s1,hs1⟩:=Ws (D3 (66::(C.seed.bytes++[b1])));have HS1:Hid (s1=K4 s i):=by unfold Hid;rw[<-hs1,HCs.out,hb1];rfl
    have hkl:ks.length=i:=by have:=congrArg List.length hks;simpa using this
    have hpl:ps.length=i:=by have:=congrArg List.length hps;simpa[GS]using this
    have HTg:Hid (∀V A c,V.ownsRow 0 5 1 (.slice A 9 c) 9 ((C.seed.bytes++[b1]).map B)->Calls prog 50 #[.int .u8 66,.slice A 9 c] V (BW V s1)):=fun V A c hV=>CB 66 A c (C.seed.bytes++[b1]) s1 V (Rd.of_own hV) (by simp[Nm.bytes]) hs1
    have HKs:=AA hks;have HPs:=AA hps;have HG:=AA hG;have HQ:=AA hQ;have HKl:=AA hkl;have HPl:=AA hpl;have zu:Bs<=wr.heap.size:=AG (by rw[HBs.out];exact AB _) hb.size;have hCY:Wx wr wr:=AC _ _;clear hb1 hs1 hks hps hG hQ hkl hpl;go_upto_region 8 with fail
    go_cut[61] (fun _ wx=>∃(s1:Nm) (hp mk:Nat) (kv':Value),s1=K4 s i/\Ax Bs wx g ⟨M,hon,par,kv',pv,sv,ks++[⟨s1,hp,mk⟩],ps,List.replicate n (Cq,[])⟩/\Blk wx q 26 C.cells/\Below Bs w wx)
    case first=>
     refine rgD (fun _=>True) (trivial) fun _=>?_
     iterate 4 (refine tkA ?_;go_frame)
     refine tkD 52 5 ?_;go_frame;refine tkD 53 6 ?_;go_frame;refine tkD 54 7 ?_;go_frame;refine tkV 55 8 (.int .u8 (i:Int)) (fun wq _=>Mp (.tmp 54) i rfl rfl (by omega) wq) ?_;go_frame;refine rd2 4 9 (fun K hK=>?_) fun K hK=>?_
     rw[if_pos (by rfl)];refine B9 kv (ED (.tmp 50) rfl g 10 rfl kv (HKv.out _ hCY.drew)) ?_;refine hK.out _ _ (trivial) (fun _=>?_);clear hK K;try go_frame
     refine rd1 9 fun K hK=>?_
     all_goals
      go_simp;refine hK.out _ _ (trivial) (fun _=>?_);clear hK K;try go_frame
      obtain⟨W1,hW1⟩:=Wr ((wr.alloc (.cells #[Value.int .u8 (i:Int)] 5)).drew);rw[<-hW1];have yr:Wx wr W1:=by rw[hW1];exact(hCY.alloc (AB _) _).drew
      have hY1:Blk W1 wr.heap.size 5 #[B b1]:=by rw[hW1,HB1.out];exact Blk.new wr _ _
      have hDx:Blk W1 q 26 C.cells:=HQ.out.below yr HQ.out.lt;clear hW1
     rotate_left;refine rd2 4 10 (fun K hK=>?_) fun K hK=>?_
     rw[if_pos (by rfl)];refine B9 kv (ED (.tmp 50) rfl g 10 rfl kv (HKv.out _ yr)) ?_;refine hK.out _ _ (trivial) (fun _=>?_);clear hK K;try go_frame
     refine rd1 10 fun K hK=>?_
     rotate_left 2
     iterate 1
      refine rd1 10 fun K hK=>?_
      rotate_left
     all_goals
      refine step_append_grows rfl (.tmp 53) (.tmp 56) 60 rfl 5 i0 (.int .u8 0) 1 1 underlying60 HI0.out.1 HI0.out.2.1 HI0.out.2.2.1 HI0.out.2.2.2 rfl (by decide) (some ⟨q,3,none⟩) 8 8 (C.seed.bytes.map B) rfl (by intro h;cases h) rfl (K6 hDx) ⟨wr.heap.size,0,none⟩ 1 1 [B b1] rfl rfl (fun j u hu=>by rw[Addr.add_mid,Nat.zero_add,hY1.cell];simpa using hu) (fun u hu=>by simp at hu;subst hu;rfl) (by omega) (by unfold maxLen;omega) (by omega) ?_;intro v2 w2 xG hg2;obtain⟨A2,c2,rfl⟩:=BD xG;have xU:=Di yr hg2;have yD:Hid (w2.ownsRow 0 5 1 (.slice A2 9 c2) 9 ((C.seed.bytes++[b1]).map B)):=(by have h2:=BS xG (Nat.zero_le _);unfold Hid;rw[Ad];exact h2);clear xG hg2;refine hK.out _ _ (trivial) (fun _=>?_);clear hK K;try go_frame
     rotate_left;refine rd2 4 11 (fun K hK=>?_) fun K hK=>?_
     rw[if_pos (by rfl)];refine B9 kv (ED (.tmp 50) rfl g 10 rfl kv (HKv.out _ xU)) ?_;refine hK.out _ _ (trivial) (fun _=>?_);clear hK K;try go_frame
     refine rd1 11 fun K hK=>?_
     rotate_left 2
     iterate 2
      refine rd1 11 fun K hK=>?_
      rotate_left
     all_goals
      go_simp;refine(HTg.out w2 A2 c2 yD.out).mono ?_;rintro en w3 ⟨rfl,hb3⟩;have xj:=xU.trans (hb3.mono xU.size);go_wp2_with fail
      refine hK.out _ _ (trivial) (fun _=>?_);clear hK K;try go_frame
     rotate_left;refine rd2 4 12 (fun K hK=>?_) fun K hK=>?_
     rw[if_pos (by rfl)];refine B9 kv (ED (.tmp 50) rfl g 10 rfl kv (HKv.out _ xj)) ?_;refine hK.out _ _ (trivial) (fun _=>?_);clear hK K;try go_frame
     refine rd1 12 fun K hK=>?_
     rotate_left 2
     iterate 3
      refine rd1 12 fun K hK=>?_
      rotate_left
     all_goals
      go_simp;refine(OT s1 w3).mono ?_;intro en w4 hk4;obtain⟨hp,mk,rfl,hm4,hK4,hb4⟩:=hk4.at;have HK4:=AA hK4;have zl:=xj.trans (hb4.mono xj.size);clear hk4 hK4;go_wp2_with fail
      refine hK.out _ _ (trivial) (fun _=>?_);clear hK K;try go_frame
     rotate_left;refine rd2 4 13 (fun K hK=>?_) fun K hK=>?_
     rw[if_pos (by rfl)];refine B9 kv (ED (.tmp 50) rfl g 10 rfl kv (HKv.out _ zl)) ?_;refine hK.out _ _ (trivial) (fun _=>?_);clear hK K;try go_frame
     refine rd1 13 fun K hK=>?_
     rotate_left 2
     iterate 4
      refine rd1 13 fun K hK=>?_
      rotate_left
     all_goals
      go_simp;refine hK.out _ _ (trivial) (fun _=>?_);clear hK K;try go_frame
      obtain⟨W5,hW5⟩:=Wr (w4.alloc (.cells #[Value.pointer (some ⟨hp,0,none⟩)] 112));rw[<-hW5];have xf:Wx w4 W5:=by rw[hW5];exact(AC _ w4).alloc (AB _) _
      have hC7:Wx wr W5:=zl.trans (xf.mono zl.size);have hR5:Rd W5 W5.heap.size (some ⟨w4.heap.size,0,none⟩) [At hp]:=by rw[hW5];exact Rd.of_blk (Blk.new w4 _ _) 0 1
      have hK5:Bi s1 hp mk W5:=HK4.out.below xf;clear hW5
     rotate_left;refine rd1 4 fun K hK=>?_
     rw[if_pos (by rfl)];refine B9 kv (ED (.tmp 50) rfl g 10 rfl kv (HKv.out _ hC7)) ?_;refine hK.out _ _ (trivial) (fun _=>?_);clear hK K;try go_frame
     all_goals
      have hG5:Ax Bs W5 g ⟨M,hon,par,kv,pv,sv,ks,ps,List.replicate n (Cq,[])⟩:=HG.out.below hC7;have hO5:W5.ownsRow Bs 112 1 kv i (ks.map fun k=>At k.h):=by have h5:=hG5.krow;rw[show(GmS.ks ⟨M,hon,par,kv,pv,sv,ks,ps,List.replicate n (Cq,[])⟩).length=i from HKl.out]at h5;exact h5
      have hBh:Bs<=W5.heap.size:=AG zu hC7.size;refine rd1 14 fun K hK=>?_
      rw[if_pos (by rfl)];refine II (some 61) rfl (.tmp 51) (.tmp 60) 90 rfl Bs 112 (.pointer none) 1 8 underlying90 QS rfl (by decide) kv i (ks.map fun k=>At k.h) rfl hO5 W5.heap.size (some ⟨w4.heap.size,0,none⟩) 1 1 [At hp] rfl rfl hR5 (fun u hu=>by simp at hu;subst hu;rfl) (by omega) (by unfold maxLen;omega) hBh ?_;intro v6 w6 xn hg6 hat6;obtain⟨A6,c6,rfl⟩:=BD xn;refine hK.out _ _ (trivial) (fun _=>?_);clear hK K;try go_frame
      refine tkD 62 15 ?_;go_frame;refine tkD 63 16 ?_;go_frame;have hEx:Blk w6 g 93 _:=hG5.blk.offB hg6 (Cl hG5.krow) (by decide);have hQ6:Blk w6 q 26 C.cells:=Blk.offB (HQ.out.below hC7 HQ.out.lt) hg6 (Cl hG5.krow) (by decide);have hmk:Bs<=mk:=AG zu (AG xj.size hm4);have hK7:=hG5.addK (k:=⟨s1,hp,mk⟩) hg6 (by rw[show(GmS.ks ⟨M,hon,par,kv,pv,sv,ks,ps,List.replicate n (Cq,[])⟩).length=i from HKl.out];exact xn) ⟨hK5.offB hg6 (Cl hG5.krow) (by decide) (by decide),hmk⟩ (fun k' hk'=>by
       have h1:=HG.out.ks_lt k' hk';have h2:=xj.size;show k'.m≠mk;omega)
      have hk6:∀j,kv.ownBlock=some j->Bs<=j:=fun j hj=>(hO5.lt j hj).1
      have hb6:Below Bs w w6:=(hb.trans (hC7.mono zu)).grown hg6 hBh hk6;refine rd1 17 fun K hK=>?_
      rw[if_pos (by rfl)];refine DP (.tmp 63) (.tmp 61) (by rfl) g 10 (.slice A6 (i+1) c6) (by rfl) (by rfl) ⟨⟨_,hEx.cell 10⟩,hEx.frozen 10⟩ QT rfl (by rfl) ?_;refine hK.out _ _ (trivial) (fun _=>?_);clear hK K;try go_frame
      refine dnD ?_;obtain⟨w7,hw7⟩:=Wr (w6.setCell ⟨g,10,none⟩ (.slice A6 (i+1) c6));rw[<-hw7];rw[<-hw7]at hK7;have hQ7:Blk w7 q 26 C.cells:=hQ6.off hK7.2 (.blk hEx (by decide));have hb7:Below Bs w w7:=by rw[hw7];exact hb6.setCell (p:=⟨g,10,none⟩) hgB _
      clear hw7;go_wp2_with fail
      go_meet;exact⟨s1,hp,mk,.slice A6 (i+1) c6,HS1.out,hK7.1,hQ7,hb7⟩
    case rest=>
     obtain⟨s1,hp,mk,kv',hs1,hG7,hQ7,hb7⟩:=hcut;generalize wc=w7 at*;have HS1':=AA hs1;have HG7:=AA hG7;have HQ7:=AA hQ7;have y11:w7.cell? ⟨g,11,none⟩=some pv:=hG7.blk.cell 11;clear hs1 hG7 hQ7 HTg HKv HG HQ HS1 HB1;obtain⟨W8,hW8⟩:=Wr (w7.alloc (.cells (FB (i,Nm.zero)).cells 97));obtain⟨W9,hW9⟩:=Wr (W8.alloc (.cells #[At w7.heap.size] 98));have hBj:Wx w7 W8:=by rw[hW8];exact(AC _ _).alloc (AB _) _
     have hs8:W8.heap.size=w7.heap.size+1:=by rw[hW8];simp
     have yc:Wx w7 W9:=by rw[hW9];exact hBj.alloc hBj.size _
     have hP9:Blk W9 w7.heap.size 97 (FB (i,Nm.zero)).cells:=by rw[hW9,hW8];exact(Blk.new w7 _ _).alloc _
     have hR9:Rd W9 W9.heap.size (some ⟨w7.heap.size+1,0,none⟩) [At w7.heap.size]:=by rw[hW9,<-hs8];exact Rd.of_blk (Blk.new W8 _ _) 0 1
     have hG9:Ax Bs W9 g ⟨M,hon,par,kv',pv,sv,ks++[⟨s1,hp,mk⟩],ps,List.replicate n (Cq,[])⟩:=HG7.out.below yc;have hO9:W9.ownsRow Bs 98 1 pv (i) (ps.map fun p=>At p.1):=by have h5:=hG9.prow;rw[show(GmS.ps ⟨M,hon,par,kv',pv,sv,ks++[⟨s1,hp,mk⟩],ps,List.replicate n (Cq,[])⟩).length=i from HPl.out]at h5;exact h5
     have hBk:Bs<=w7.heap.size:=AG (by rw[HBs.out];exact AB _) hb7.size;have hC8:Bs<=W9.heap.size:=AG hBk yc.size;rw[hW8]at hW9;go_upto_region 10 with(at_builtin;refine Ar rfl (.tmp 68) (.tmp 72) _ rfl Bs 98 (.pointer none) 1 8 underlying91 K5 rfl (by decide) pv (i) (ps.map fun p=>At p.1) rfl (hW9▸hO9) W9.heap.size (some ⟨w7.heap.size+1,0,none⟩) 1 1 [At w7.heap.size] rfl rfl (hW9▸hR9) (fun u hu=>by simp at hu;subst hu;rfl) (by omega) (by unfold maxLen;omega) (hW9▸hC8) ?_;intro v10 w10 yt yI hC9;have yI:W9.grownBy w10 pv.ownBlock:=hW9▸yI;obtain⟨A10,c10,rfl⟩:=BD yt;have yl:Blk w10 g 93 _:=hG9.blk.offB yI (Cl hG9.prow) (by decide);have k1:w10.cell? ⟨g,11,none⟩=some pv:=yl.cell 11;have k2:w10.frozen? ⟨g,11,none⟩=false:=yl.frozen 11)
     have hBH:=hG9.addP (b:=w7.heap.size) (P:=FB (i,Nm.zero)) yI (by rw[show(GmS.ps ⟨M,hon,par,kv',pv,sv,ks++[⟨s1,hp,mk⟩],ps,List.replicate n (Cq,[])⟩).length=i from HPl.out];exact yt) ⟨PC (hP9.offB yI (Cl hG9.prow) (by decide)),hBk⟩ (fun p hp=>by
      have h1:=HG7.out.ps_lt p hp;omega)
     have hEy:=AA hBH.1;have hEz:Hid (Blk _ q 26 C.cells):=Blk.off (Blk.offB (HQ7.out.below yc HQ7.out.lt) yI (Cl hG9.prow) (by decide)) hBH.2 (.blk yl (by decide));have hDA:∀j,pv.ownBlock=some j->Bs<=j:=fun j hj=>(hO9.lt j hj).1
     have yr:Below Bs w _:=((hb7.trans (yc.mono hBk)).grown yI hC8 hDA).setCell (p:=⟨g,11,none⟩) hgB (.slice A10 (i+1) c10);clear hW8 hW9 hBj yc hP9 hR9 hG9 hO9 hBH hDA yl k1 k2 yt yI hC9;go_wp2;go_roundw
     case rel=>
      refine⟨i+1,by go_num,by omega,_,_,_,_,hEy.out,?_,?_,hEz.out,yr⟩
      ·rw[Ad,HKs.out,List.range_succ,Ad,List.map_cons,List.map_nil,List.map_cons,List.map_nil,HS1'.out]
      ·rw[Ad,HPs.out,List.range_succ,Mn,Ad];rfl
     case measure=>simp[intOf];omega
   ·have di:=Wv (show n<=i by omega)
    have hGy:ks.map (·.seed)=(List.range n).map (K4 s):=by rw[hks,show i=n from by omega]
    have zv:ps.map (·.2)=(msF s (List.range n) 0).map FB:=by rw[hps,show i=n from by omega]
    obtain⟨ids,zf⟩:=Wr (CK (xOf (bits .and .i64 M T)) 10);obtain⟨nI,hnI⟩:=Ws ids.length;have hnI10:nI<=10:=by rw[<-hnI,zf];exact GC _ _
    have HIc:Hid (∀W,Calls prog 52 #[.int .i64 (bits .and .i64 M T)] W fun e w'=>∃v,e= .returned v/\w'.ownsRow W.heap.size 3 1 v nI (ids.map fun i:Nat=>Value.int .i64 (i:Int))/\Wx W w'):=fun W=>by rw[<-hnI,zf];exact Pi _ W
    have hpl:ps.length=n:=by have:=congrArg List.length zv;simpa[GS]using this
    have HX:Hid (∀V,Wx wr V->V.cell? ⟨g,0,none⟩=some (.int .i64 M)/\V.cell? ⟨q,1,none⟩=some (.int .i64 T)):=fun V hV=>⟨(hG.below hV).blk.cell 0,by rw[<-HCT.out];exact(hQ.below hV hQ.lt).cell 1⟩
    have HKs:=AA hGy;have HPs:=AA zv;have HPl:=AA hpl;have HG:=AA hG;have HQ:=AA hQ;have HIe:=AA zf;have HIn:=AA hnI;have zu:Bs<=wr.heap.size:=AG (by rw[HBs.out];exact AB _) hb.size;clear hks hps hGy zv zf hnI hpl hG hQ;go_upto_region 11 with fail
    refine rgD (fun V=>V.cell? ⟨g,0,none⟩=some (.int .i64 M)/\V.cell? ⟨q,1,none⟩=some (.int .i64 T)) (HX.out _ (AC wr.heap.size wr).drew) fun _=>?_
    iterate 7 (refine tkA ?_;go_frame)
    refine tkD 86 9 ?_;go_frame;refine rd1 7 fun K hK=>?_
    go_simp;refine(HIc.out _).mono ?_;rintro en w8 ⟨v8,rfl,xV,hb8⟩;obtain⟨A8,c8,rfl⟩:=BD xV;have hDB:Wx wr w8:=((AC wr.heap.size wr).drew).trans (hb8.mono (Below.size (AC wr.heap.size wr).drew));have zM:=AA xV;clear xV;go_wp2_with fail
    refine hK.out _ _ (HX.out _ hDB) (fun _=>?_);clear hK K;try go_frame
    refine tkD 85 8 ?_;go_frame;refine dnD ?_;have hG8:=HG.out.below hDB;have HG8:=AA hG8;have HQ8:Hid (Blk w8 q 26 C.cells):=HQ.out.below hDB HQ.out.lt;have HI8:Hid (w8.ownsRow Bs 3 1 (.slice A8 nI c8) nI (ids.map fun i:Nat=>Value.int .i64 (i:Int))):=BS zM.out zu;have zA:Below Bs w w8:=hb.trans (hDB.mono zu);clear hG8 HX HIc zM HG HQ hb8 hDB;go_wp2
    go_loopw [86] (fun iv wr=>∃(j:Nat) (pv:Value) (ps:List (Nat×PrS)),iv= .int .i64 (j:Int)/\j<=nI/\wr.ownsRow Bs 3 1 (.slice A8 nI c8) nI (ids.map fun i:Nat=>Value.int .i64 (i:Int))/\Ax Bs wr g ⟨M,hon,par,kv,pv,sv,ks,ps,List.replicate n (Cq,[])⟩/\ps.map (·.2)=(msF s (List.range n++ids.take j) 0).map FB/\Blk wr q 26 C.cells/\Below Bs w wr) (fun iv _=>nI-(intOf iv).toNat)
    case atStart=>exact⟨0,pv,ps,rfl,Nat.zero_le _,HI8.out,HG8.out,by rw[List.take_zero,List.append_nil];exact HPs.out,HQ8.out,zA⟩
    case round=>
     clear HI8 HG8 HPs HQ8 zA HPl hb zu pv ps;obtain⟨j,pv,ps,rfl,hjn,hI,hG,hps,hQ,hb⟩:=hrel;by_cases hj:j<nI
     ·have dj:=Wu (show j<nI by omega)
      obtain⟨m,hmj⟩:∃m,ids[j]? =some m:=⟨_,AE (by rw[HIn.out];exact hj)⟩;obtain⟨ab,ac,hv,xH,_,_⟩:=CT (i:=j) (u:=.int .i64 (m:Int)) hI (by rw[AV,hmj];rfl);injection hv with hv hv1 hv2
      subst hv;clear hv1 hv2;have hpl:ps.length=n+j:=by have:=congrArg List.length hps;simpa[GS,AZ,HIn.out,Nat.min_eq_left hjn]using this
      have HPl:=AA hpl;have HPs:=AA hps;have HG:=AA hG;have HQ:=AA hQ;have HI:=AA hI;have HMj:=AA hmj;have y11:wr.cell? ⟨g,11,none⟩=some pv:=hG.blk.cell 11;clear hpl hps hG hQ hI hmj;go_upto_region 14 with fail
      obtain⟨W8,hW8⟩:=Wr (wr.alloc (.cells (FB (m,Nm.zero)).cells 97));obtain⟨W9,hW9⟩:=Wr (W8.alloc (.cells #[At wr.heap.size] 98));have hBj:Wx wr W8:=by rw[hW8];exact(AC _ _).alloc (AB _) _
      have hs8:W8.heap.size=wr.heap.size+1:=by rw[hW8];simp
      have yc:Wx wr W9:=by rw[hW9];exact hBj.alloc hBj.size _
      have hP9:Blk W9 wr.heap.size 97 (FB (m,Nm.zero)).cells:=by rw[hW9,hW8];exact(Blk.new wr _ _).alloc _
      have hR9:Rd W9 W9.heap.size (some ⟨wr.heap.size+1,0,none⟩) [At wr.heap.size]:=by rw[hW9,<-hs8];exact Rd.of_blk (Blk.new W8 _ _) 0 1
      have hG9:Ax Bs W9 g ⟨M,hon,par,kv,pv,sv,ks,ps,List.replicate n (Cq,[])⟩:=HG.out.below yc;have hO9:W9.ownsRow Bs 98 1 pv (n+j) (ps.map fun p=>At p.1):=by have h5:=hG9.prow;rw[show(GmS.ps ⟨M,hon,par,kv,pv,sv,ks,ps,List.replicate n (Cq,[])⟩).length=n+j from HPl.out]at h5;exact h5
      have hBk:Bs<=wr.heap.size:=AG (by rw[HBs.out];exact AB _) hb.size;have hC8:Bs<=W9.heap.size:=AG hBk yc.size;rw[hW8]at hW9;go_upto_region 15 with(at_builtin;refine Ar rfl (.tmp 94) (.tmp 98) _ rfl Bs 98 (.pointer none) 1 8 underlying91 K5 rfl (by decide) pv (n+j) (ps.map fun p=>At p.1) rfl (hW9▸hO9) W9.heap.size (some ⟨wr.heap.size+1,0,none⟩) 1 1 [At wr.heap.size] rfl rfl (hW9▸hR9) (fun u hu=>by simp at hu;subst hu;rfl) (by omega) (by unfold maxLen;omega) (hW9▸hC8) ?_;intro v10 w10 yt yI hC9;have yI:W9.grownBy w10 pv.ownBlock:=hW9▸yI;obtain⟨A10,c10,rfl⟩:=BD yt;have yl:Blk w10 g 93 _:=hG9.blk.offB yI (Cl hG9.prow) (by decide);have k1:w10.cell? ⟨g,11,none⟩=some pv:=yl.cell 11;have k2:w10.frozen? ⟨g,11,none⟩=false:=yl.frozen 11)
      have hBH:=hG9.addP (b:=wr.heap.size) (P:=FB (m,Nm.zero)) yI (by rw[show(GmS.ps ⟨M,hon,par,kv,pv,sv,ks,ps,List.replicate n (Cq,[])⟩).length=n+j from HPl.out];exact yt) ⟨PC (hP9.offB yI (Cl hG9.prow) (by decide)),hBk⟩ (fun p hp=>by
       have h1:=HG.out.ps_lt p hp;omega)
      have hEy:=AA hBH.1;have hEz:Hid (Blk _ q 26 C.cells):=Blk.off (Blk.offB (HQ.out.below yc HQ.out.lt) yI (Cl hG9.prow) (by decide)) hBH.2 (.blk yl (by decide));have hDA:∀j,pv.ownBlock=some j->Bs<=j:=fun j hj=>(hO9.lt j hj).1
      have yr:Below Bs w _:=((hb.trans (yc.mono hBk)).grown yI hC8 hDA).setCell (p:=⟨g,11,none⟩) hgB (.slice A10 (n+j+1) c10);have HI11:Hid (World.ownsRow _ Bs 3 1 (.slice (some ⟨ab,0,none⟩) nI c8) nI (ids.map fun i:Nat=>Value.int .i64 (i:Int))):=BK (Bx (BP HI.out yc (AB _)) yI (Cl hG9.prow) (by decide)) hBH.2 (.blk yl (by decide));clear hW8 hW9 hBj yc hP9 hR9 hG9 hO9 hBH hDA yl k1 k2 yt yI hC9;go_wp2;go_roundw
      case rel=>
       refine⟨j+1,_,_,by go_num,by omega,HI11.out,hEy.out,?_,hEz.out,yr⟩;rw[Ad,HPs.out,Ah,HMj.out,BF,<-List.append_assoc,Mn,Ad];rfl
      case measure=>simp[intOf];omega
     ·have dj:=Wv (show nI<=j by omega)
      obtain⟨ms,hms⟩:=Wr (List.range n++ids);have zv:ps.map (·.2)=(msF s ms 0).map FB:=by rw[hps,AT (by rw[HIn.out];omega),hms]
      obtain⟨np,hnp⟩:=Ws ms.length;have hpl:ps.length=np:=by have:=congrArg List.length zv;rw[<-hnp];simpa[GS]using this
      have hnp17:np<=17:=by rw[<-hnp,hms,AI,List.length_range,HIn.out];omega
      obtain⟨A16,c16,hpv⟩:=BD hG.prow;rw[show(GmS.ps ⟨M,hon,par,kv,pv,sv,ks,ps,List.replicate n (Cq,[])⟩).length=np from hpl]at hpv;replace hpv:pv= .slice A16 np c16:=hpv;subst hpv;have y11:wr.cell? ⟨g,11,none⟩=some (.slice A16 np c16):=hG.blk.cell 11;have HPs:=AA zv;have HG:=AA hG;have HQ:=AA hQ;have HMs:=AA hms;have HNp:=AA hnp;clear hps zv hG hQ hI hms hnp hpl;go_wp2
      go_loopw [108] (fun iv wr=>∃(p:Nat) (ps:List (Nat×PrS)),iv= .int .i64 (p:Int)/\p<=np/\Ax Bs wr g ⟨M,hon,par,kv,.slice A16 np c16,sv,ks,ps,List.replicate n (Cq,[])⟩/\ps.map (·.2)=(msF s ms p).map FB/\Blk wr q 26 C.cells/\Below Bs w wr) (fun iv _=>np-(intOf iv).toNat)
      case atStart=>exact⟨0,ps,rfl,Nat.zero_le _,HG.out,HPs.out,HQ.out,hb⟩
      case round=>
       clear HPs HG HQ hb y11 ps;obtain⟨p,ps,rfl,hpn,hG,hps,hQ,hb⟩:=hrel;by_cases hp:p<np
       ·have dp:=Wu (show p<np by omega)
        obtain⟨⟨b,P⟩,hpp⟩:∃x,ps[p]? =some x:=⟨_,AE (by
         have:=congrArg List.length hps;simp only[Ab,GS,HNp.out]at this;omega)⟩
        have hx:∃m,ms[p]? =some m/\P=FB (m,Nm.zero):=by
         have h1:(ps.map (·.2))[p]? =some P:=by rw[AV,hpp];rfl
         rw[hps,AV]at h1;obtain⟨x,h2,h3⟩:=Option.map_eq_some_iff.1 h1;obtain⟨h4,h5⟩:=PB h2;rw[if_neg (by omega)]at h5;exact⟨x.1,h4,by rw[<-h3,<-h5]⟩
        obtain⟨pb,pc,hpv,_,_,hpi⟩:=hG.pcells hpp;injection hpv with hpv hv1 hv2
        subst hpv;clear hv1 hv2 hpi;have HX:Hid (∀V (G':GmS),Ax Bs V g G'->G'.pv= .slice (some ⟨pb,0,none⟩) np c16->(∃P',G'.ps[p]? =some (b,P'))->V.cell? ⟨g,11,none⟩=some (.slice (some ⟨pb,0,none⟩) np c16)/\V.cell? ⟨pb,p,none⟩=some (At b)):=fun V G' h1 h2 ⟨P',h3⟩=>by
         obtain⟨pb',pc',e,z1,z2,_⟩:=h1.pcells h3;rw[h2]at e;rw[<-e]at z1;injection e with e _ _
         injection e with e
         injection e with e _ _
         subst e;exact⟨z1,z2⟩
        obtain⟨b1,hb1⟩:=Wr (UInt8.ofNat p);have HB1:Hid (B b1= .int .u8 (p:Int)):=by unfold Hid;rw[hb1];exact J2 p (by omega)
        obtain⟨s1,hs1⟩:=Ws (D3 (68::(C.seed.bytes++[b1])));have HS1:Hid (s1=IA s p):=by unfold Hid;rw[<-hs1,HCs.out,hb1];rfl
        have HTg:Hid (∀V A c,V.ownsRow 0 5 1 (.slice A 9 c) 9 ((C.seed.bytes++[b1]).map B)->Calls prog 50 #[.int .u8 68,.slice A 9 c] V (BW V s1)):=fun V A c hV=>CB 68 A c (C.seed.bytes++[b1]) s1 V (Rd.of_own hV) (by simp[Nm.bytes]) hs1
        have HPs:=AA hps;have HG:=AA hG;have HQ:=AA hQ;have HPp:=AA hpp;have HXx:=AA hx;have zu:Bs<=wr.heap.size:=AG (by rw[HBs.out];exact AB _) hb.size;have hCY:Wx wr wr:=AC _ _;have hpi:(p:Int)<(np:Int):=by omega
        clear hb1 hs1 hps hG hQ hpp hx;go_upto_region 19 with fail
        refine rgD (fun V=>V.cell? ⟨g,11,none⟩=some (.slice (some ⟨pb,0,none⟩) np c16)/\V.cell? ⟨pb,p,none⟩=some (At b)) (HX.out _ _ (HG.out.below (hCY.drew)) rfl ⟨P,HPp.out⟩) fun _=>?_
        iterate 10 (refine tkA ?_;go_frame)
        refine tkV 121 10 (.int .u8 (p:Int)) (fun wq _=>Mp (.tmp 120) p rfl rfl (by omega) wq) ?_;go_frame;refine rd1 11 fun K hK=>?_
        go_simp;refine hK.out _ _ (HX.out _ _ (HG.out.below ((hCY.alloc (AB _) _).drew)) rfl ⟨P,HPp.out⟩) (fun _=>?_);clear hK K;try go_frame
        obtain⟨W1,hW1⟩:=Wr ((wr.alloc (.cells #[Value.int .u8 (p:Int)] 5)).drew);rw[<-hW1];have yr:Wx wr W1:=by rw[hW1];exact(hCY.alloc (AB _) _).drew
        have hY1:Blk W1 wr.heap.size 5 #[B b1]:=by rw[hW1,HB1.out];exact Blk.new wr _ _
        have hDx:Blk W1 q 26 C.cells:=HQ.out.below yr HQ.out.lt;clear hW1;refine rd1 12 fun K hK=>?_
        refine step_append_grows rfl (.tmp 119) (.tmp 122) 60 rfl 5 i0 (.int .u8 0) 1 1 underlying60 HI0.out.1 HI0.out.2.1 HI0.out.2.2.1 HI0.out.2.2.2 rfl (by decide) (some ⟨q,3,none⟩) 8 8 (C.seed.bytes.map B) rfl (by intro h;cases h) rfl (K6 hDx) ⟨wr.heap.size,0,none⟩ 1 1 [B b1] rfl rfl (fun j u hu=>by rw[Addr.add_mid,Nat.zero_add,hY1.cell];simpa using hu) (fun u hu=>by simp at hu;subst hu;rfl) (by omega) (by unfold maxLen;omega) (by omega) ?_;intro v2 w2 xG hg2;obtain⟨A2,c2,rfl⟩:=BD xG;have xU:=Di yr hg2;have yD:Hid (w2.ownsRow 0 5 1 (.slice A2 9 c2) 9 ((C.seed.bytes++[b1]).map B)):=(by have h2:=BS xG (Nat.zero_le _);unfold Hid;rw[Ad];exact h2);clear xG hg2;refine hK.out _ _ (HX.out _ _ (HG.out.below (xU)) rfl ⟨P,HPp.out⟩) (fun _=>?_);clear hK K;try go_frame
        refine rd1 13 fun K hK=>?_
        go_simp;refine(HTg.out w2 A2 c2 yD.out).mono ?_;rintro en w3 ⟨rfl,hb3⟩;have xj:=xU.trans (hb3.mono xU.size);go_wp2_with fail
        refine hK.out _ _ (HX.out _ _ (HG.out.below (xj)) rfl ⟨P,HPp.out⟩) (fun _=>?_);clear hK K;try go_frame
        iterate 2 (refine tkA ?_;go_frame)
        have hG3:=HG.out.below xj;have hP3:=hG3.prs _ _ HPp.out;have hbB:Bs<=b:=hP3.2;have zj:Bs<=w3.heap.size:=AG zu xj.size;have hP7:=hP3.1.payd (s:=s1) rfl;have hG7:=hG3.setP HPp.out hP7.2 hP7.1;refine rd1 16 fun K hK=>?_
        rw[if_pos (by rfl)];refine Lp (.tmp 126) (.tmp 124) (by rfl) b P s1 (by rfl) (by rfl) hP3.1.blk (by rfl) ?_;refine hK.out _ _ (HX.out _ _ hG7 rfl ⟨_,List.getElem?_set_self (AF.1 HPp.out).1⟩) (fun _=>?_);clear hK K;try go_frame
        refine dnD ?_;have HG7:=AA hG7;have HQ7:Hid (Blk _ q 26 C.cells):=Blk.off (HQ.out.below xj HQ.out.lt) hP7.2 (.blk hP3.1.blk (by decide));have hb7:Below Bs w _:=(hb.trans (xj.mono zu)).grown hP7.2 zj (Wt hbB);clear hG3 hP3 hP7 hG7 hDx hY1 yD HTg yr xU xj hb3 HG HQ;go_wp2;go_roundw
        case rel=>
         refine⟨p+1,_,by go_num,by omega,HG7.out,?_,HQ7.out,hb7⟩;obtain⟨m,hm,rfl⟩:=HXx.out;show(ps.set p (b,_)).map (·.2)=_;rw[List.map_set,HPs.out,<-Ts s ms p m hm,List.map_set,HS1.out]
        case measure=>simp[intOf];omega
       ·have dp:=Wv (show np<=p by omega)
        have zv:ps.map (·.2)=(msF s ms ms.length).map FB:=by rw[hps,HNp.out,show p=np from by omega]
        have HPs:=AA zv;have HG:=AA hG;clear hps zv hG hQ;go_wp2;go_ret2;refine⟨g,⟨M,hon,par,kv,.slice A16 np c16,sv,ks,ps,List.replicate n (Cq,[])⟩,rfl,by show Below w.heap.size w _;rw[<-HBs.out];exact hb,by rw[<-HBs.out];exact HG.out,HM.out,hAd.out,?_,HKs.out,⟨ms,?_,HPs.out⟩,rfl⟩
        ·show par=Mm s;rw[<-HPar.out,HCs.out]
        ·rw[HMs.out,HIe.out]
end
end Go.Proofs.YtadllffeoibelaaGreat
