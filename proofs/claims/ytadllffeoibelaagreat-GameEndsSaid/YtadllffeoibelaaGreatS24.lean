/-
  Parts of the proof. No condition.
-/
import Derived.Test.YtadllffeoibelaaGreatS23
open Go.Proofs.Tryz
namespace Go.Proofs.YtadllffeoibelaaGreat
set_option maxRecDepth 100000
set_option maxHeartbeats 32000000
set_option linter.all false
section
open Go.RowKit
attribute [local go_sem ↓] Go.wp_at_zero Go.wp_at_succ Aq Au Av Aw
attribute [local go_sem] BE BL BM BN AR AX AU
def DL(D:List Vt):List Nm:=(D.filter fun x=>decide (x.kind=1)).map (·.value)
def Du(par:Nm)(m:Nat)(D:List Vt):Bool:=D.any fun x=>decide (x.kind=1)&&(decide (x.parent=par)&&(decide (x.signer=(m:Int))&&decide (x.slot=(m:Int))))
theorem QI(D:List Vt)(x:Vt):DL (D++[x])=if x.kind=1 then DL D++[x.value]else DL D:=by
 unfold DL;rw[List.filter_append,Ad];by_cases h:x.kind=1 <;> simp[h]
theorem QJ(par:Nm)(m:Nat)(D:List Vt)(x:Vt):Du par m (D++[x])=(Du par m D||(decide (x.kind=1)&&(decide (x.parent=par)&&(decide (x.signer=(m:Int))&&decide (x.slot=(m:Int)))))):=by
 unfold Du;rw[List.any_append];simp
def JG(D:List Vt)(par:Nm)(m:Nat)(w:World)(e:Ending)(w':World):Prop:=
 ∃(v:Value),e= .returned (.tuple #[v,.bool (Du par m D)])/\w'.ownsRow w.heap.size 24 8 v (DL D).length ((DL D).flatMap nmc)/\Wx w w'
def U7(D:List Vt)(par:Nm)(m:Nat)(w:World)(v ov iv:Value)(wr:World):Prop:=
 ∃(i:Nat) (L:List Nm) (d:Bool),iv= .int .i64 (i:Int)/\ov= .bool d/\i<=D.length/\L.length<=i/\L=DL (D.take i)/\d=Du par m (D.take i)/\wr.ownsRow w.heap.size 24 8 v L.length (L.flatMap nmc)/\Wx w wr
theorem Ln{Bs g i0 b:Nat}{w:World}{G:GmS}{P:PrS}(h:Ax Bs w g G)(hi:G.ps[i0]? =some (b,P))(hsm:P.L.length<=1000000):Calls prog 73 #[At g,At b] w (JG (EY (P.L.map Sg.vs)) G.par P.mem w):=by
 have hP:=(h.prs _ _ hi).1;have HVs:=AA (Gi hP hsm);have HS:Hid (∀V,Wx w V->AK V g 2 8=some G.par.cells/\V.cell? ⟨b,1,none⟩=some (.int .i64 (P.mem:Int))):=fun V hV=>⟨(h.below hV).row_par,((h.below hV).prs _ _ hi).1.blk.cell 1⟩
 obtain⟨D,hD⟩:=Wr (EY (P.L.map Sg.vs));have hD6:D.length<=1000000:=by
  have:=FF (P.L.map Sg.vs);rw[Ab]at this;rw[hD];unfold EY;rw[Ab];omega
 rw[<-hD]at HVs ⊢;obtain⟨par,zJ⟩:=Wr G.par;obtain⟨mm,hmm⟩:=Wr P.mem;rw[<-zJ,<-hmm]at HS ⊢;clear h hi hP hD hsm zJ hmm;go_enter func73,ntmps73;go_wp2_with (go_at_call 44;refine HVs.out.mono ?_;rintro en w2 ⟨v2,rfl,hb2,xG⟩;obtain⟨A2,c2,rfl,hR2⟩:=Bg xG;have HR2:=AA hR2;obtain⟨n,hn⟩:=Ws D.length;rw[hn]at hD6 ⊢;have HN:=AA hn;clear xG hR2 hn)
 go_loopw [6,7,15] (fun v ov iv wr=>U7 D par mm w2 v ov iv wr) (fun _ _ iv _=>n-(intOf iv).toNat)
 case atStart=>exact⟨0,[],false,rfl,rfl,Nat.zero_le _,Nat.zero_le _,rfl,rfl,⟨by simp,.inl ⟨rfl,rfl⟩⟩,AC _ _⟩
 case round=>
  obtain⟨i,L,d,rfl,rfl,hin,hLi,hL,hd,xB,hbw⟩:=hrel;rw[HN.out]at hin;have HL:=AA hL;have HDd:=AA hd;have xF:=AA xB;have hL6:L.length<=1000000:=by omega
  have yP:=hb2.trans (hbw.mono hb2.size);clear hL hd xB;by_cases hi:i<n
  ·have di:=Wu (show i<n by omega)
   obtain⟨x,hx⟩:∃x,D[i]? =some x:=⟨_,AE (by rw[HN.out];exact hi)⟩;obtain⟨b0,o,rfl,hb,xH⟩:=HR2.out.cells (by intro e;have:=AY vtc 22 D (CI D);rw[e,HN.out]at this;simp at this;omega);clear xH;have x1:AK wr b0 (o+i*22) 22=some x.cells:=(HR2.out.below hbw).voteRow hx;have hNx:DL (D.take (i+1))=if x.kind=1 then L++[x.value]else L:=by rw[Ah,hx,BF,QI,<-HL.out]
   have hOx:Du par mm (D.take (i+1))=(d||(decide (x.kind=1)&&(decide (x.parent=par)&&(decide (x.signer=(mm:Int))&&decide (x.slot=(mm:Int)))))):=by rw[Ah,hx,BF,QJ,<-HDd.out]
   have HNx:=AA hNx;have HOx:=AA hOx;clear hx hNx hOx;go_upto_region 6 with(refine AJ rfl 46 (.tmp 9) (.tmp 18) rfl wr.heap.size x.cells rfl rfl 46 Bk.cells (Blk.new wr _ _) (by rfl) (by kernel_rfl) (fun u hu=>BH x hu) ?_;intro w4 hB4 hg4 xb)
   have xJ:Hid (w4.ownsRow w2.heap.size 24 8 u6 L.length (L.flatMap nmc)):=Ba (xF.out.alloc _) hg4 (fun k hk=>by
    injection hk with hk
    subst hk;right;intro e;have:=(xF.out.lt _ e).2;omega)
   have xI:Wx w2 w4:=(hbw.alloc hbw.size _).grown hg4 (AG hbw.size (by simp)) (Wt hbw.size);obtain⟨z,hz⟩:=Wr wr.heap.size;rw[<-hz]at hB4 ⊢;have x4:w4.cell? ⟨z,0,none⟩=some (.int .i64 x.kind):=hB4.cell 0;have x5:AK w4 z 14 8=some x.value.cells:=x.row_value hB4;have HZ4:=AA hB4;clear hB4 hg4 xb x1 hz xF hbw yP;try go_frame
   by_cases h1:x.kind=1
   rotate_left
   ·have e1:(x.kind==1)=false:=by simpa using h1
    have hBA:Hid (L=DL (D.take (i+1))):=by unfold Hid;rw[HNx.out,if_neg h1]
    have hBe:Hid (d=Du par mm (D.take (i+1))):=by unfold Hid;rw[HOx.out,decide_eq_false h1];simp
    clear h1;go_wp2;go_roundw
    case rel=>exact⟨i+1,L,d,by go_num,rfl,by rw[HN.out];omega,by omega,hBA.out,hBe.out,xJ.out,xI⟩
    case measure=>simp[intOf];omega
   have e1:(x.kind==1)=true:=by rw[h1];rfl
   have hBA:Hid (L++[x.value]=DL (D.take (i+1))):=by unfold Hid;rw[HNx.out,if_pos h1]
   have hBe:Hid (Du par mm (D.take (i+1))=(d||(decide (x.parent=par)&&(decide (x.signer=(mm:Int))&&decide (x.slot=(mm:Int)))))):=by unfold Hid;rw[HOx.out,decide_eq_true h1,Bool.true_and]
   clear h1 HNx HOx;go_wp2_with ((first
    |(refine BQ rfl 75 24 (.tmp 24) rfl x.value.cells rfl underlying75 (by kernel_rfl) (by decide) (by decide) ?_)
    |(at_builtin;refine Ar rfl (.tmp 22) (.tmp 25) _ rfl w2.heap.size 24 (Nm.val ⟨0,0,0,0,0,0,0,0⟩) 8 8 underlying75 Dj rfl (by decide) u6 L.length (L.flatMap nmc) rfl ?r0 (w4.heap.size+1) (some ⟨w4.heap.size,0,none⟩) 1 1 (nmc x.value) rfl ?r1 ?r2 ?r3 ?r4 ?r5 ?r6 ?_)))
   case r0=>exact xJ.out.alloc _
   case r1=>rfl
   case r2=>exact Rd.mk (by omega) (fun j u hu=>by rw[Nat.zero_add,(Blk.new w4 _ _).cell];simpa using hu)
   case r3=>exact fun u hu=>LZ x.value hu
   case r4=>omega
   case r5=>unfold maxLen;omega
   case r6=>have:=xI.size;simp;omega
   intro v7 w7 xE hg7 xo;have yL:Wx w2 w7:=BO (xI.alloc xI.size _) (xJ.out.alloc _) hg7;have HZ7:Hid (Blk w7 z 46 x.cells):=(HZ4.out.alloc _).kept hg7 (CO xJ.out HZ4.out (by decide));have xO:Hid (w7.ownsRow w2.heap.size 24 8 v7 (L++[x.value]).length ((L++[x.value]).flatMap nmc)):=by
    unfold Hid;rw[AI,Af];simpa using xE
   have xc:=hb2.trans (yL.mono hb2.size);have HX:Hid (AK w7.drew z 6 8=some x.parent.cells/\w7.drew.cell? ⟨z,4,none⟩=some (.int .i64 x.signer)/\w7.drew.cell? ⟨z,1,none⟩=some (.int .i64 x.slot)/\AK w7.drew g 2 8=some par.cells/\w7.drew.cell? ⟨b,1,none⟩=some (.int .i64 (mm:Int))):=
    ⟨x.row_parent HZ7.out,HZ7.out.cell 4,HZ7.out.cell 1,(HS.out _ xc).1,(HS.out _ xc).2⟩
   have hDr:Wx w2 w7.drew:=yL.drew;have hDt:Hid (w7.drew.ownsRow w2.heap.size 24 8 v7 (L++[x.value]).length ((L++[x.value]).flatMap nmc)):=xO.out;have hLx:(L++[x.value]).length<=i+1:=by rw[AI,List.length_singleton];omega
   clear xE hg7 xo x4 x5 xJ xO;obtain⟨dP,hdP⟩:=Wr (decide (x.parent=par));obtain⟨dS,hdS⟩:=Wr (decide (x.signer=(mm:Int)));obtain⟨dL,hdL⟩:=Wr (decide (x.slot=(mm:Int)));have eP:∀W,(Op.equalIn 10000 24 (.agg x.parent.cells) (.agg par.cells)).run prog W= .ok dP W:=fun W=>by rw[hdP];exact EW x.parent par W 9998
   have eS:(x.signer==(mm:Int))=dS:=by rw[hdS];rfl
   have eL:(x.slot==(mm:Int))=dL:=by rw[hdL];rfl
   rw[<-hdP,<-hdS,<-hdL]at hBe;clear hdP hdS hdL;go_upto_region 8 with fail
   cases d with
   |true=>
    refine rgD (fun V=>AK V z 6 8=some x.parent.cells/\V.cell? ⟨z,4,none⟩=some (.int .i64 x.signer)/\V.cell? ⟨z,1,none⟩=some (.int .i64 x.slot)/\AK V g 2 8=some par.cells/\V.cell? ⟨b,1,none⟩=some (.int .i64 (mm:Int))) (HX.out) fun _=>?_
    iterate 2 (refine tkA ?_;go_frame)
    refine skD 29 2 ?_;go_frame;refine skD 30 3 ?_;go_frame;refine skD 31 4 ?_;go_frame;refine skD 32 5 ?_;go_frame;refine skD 33 6 ?_;go_frame;refine skD 34 7 ?_;go_frame;refine skD 35 8 ?_;go_frame;refine skD 36 9 ?_;go_frame;refine skD 37 10 ?_;go_frame;refine skD 38 11 ?_;go_frame;refine skD 39 12 ?_;go_frame;refine skD 40 13 ?_;go_frame;refine skD 41 14 ?_;go_frame;refine skD 42 15 ?_;go_frame;refine skD 43 16 ?_;go_frame;refine skD 44 17 ?_;go_frame;refine skD 45 18 ?_;go_frame;refine skD 46 19 ?_;go_frame;refine skD 47 20 ?_;go_frame;refine skD 48 21 ?_;go_frame;refine skD 49 22 ?_;go_frame;refine skD 50 23 ?_;go_frame;refine skD 51 24 ?_;go_frame;refine skD 52 25 ?_;go_frame;refine skD 53 26 ?_;go_frame
    iterate 2 (refine tkA ?_;go_frame)
    refine dnD ?_;go_wp2;go_roundw
    case rel=>exact⟨i+1,_,true,by go_num,rfl,by rw[HN.out];omega,hLx,hBA.out,by rw[hBe.out];simp,hDt.out,hDr⟩
    case measure=>simp[intOf];omega
   |false=>
    cases dP with
    |false=>
     refine rgD (fun V=>AK V z 6 8=some x.parent.cells/\V.cell? ⟨z,4,none⟩=some (.int .i64 x.signer)/\V.cell? ⟨z,1,none⟩=some (.int .i64 x.slot)/\AK V g 2 8=some par.cells/\V.cell? ⟨b,1,none⟩=some (.int .i64 (mm:Int))) (HX.out) fun _=>?_
     iterate 10 (refine tkA ?_;go_frame)
     refine skD 37 10 ?_;go_frame;refine skD 38 11 ?_;go_frame;refine skD 39 12 ?_;go_frame;refine skD 40 13 ?_;go_frame;refine skD 41 14 ?_;go_frame;refine skD 42 15 ?_;go_frame;refine skD 43 16 ?_;go_frame
     iterate 2 (refine tkA ?_;go_frame)
     refine skD 46 19 ?_;go_frame;refine skD 47 20 ?_;go_frame;refine skD 48 21 ?_;go_frame;refine skD 49 22 ?_;go_frame;refine skD 50 23 ?_;go_frame;refine skD 51 24 ?_;go_frame;refine skD 52 25 ?_;go_frame
     iterate 3 (refine tkA ?_;go_frame)
     refine dnD ?_;go_wp2;go_roundw
     case rel=>exact⟨i+1,_,false,by go_num,rfl,by rw[HN.out];omega,hLx,hBA.out,by rw[hBe.out];simp,hDt.out,hDr⟩
     case measure=>simp[intOf];omega
    |true=>
     cases dS with
     |false=>
      refine rgD (fun V=>AK V z 6 8=some x.parent.cells/\V.cell? ⟨z,4,none⟩=some (.int .i64 x.signer)/\V.cell? ⟨z,1,none⟩=some (.int .i64 x.slot)/\AK V g 2 8=some par.cells/\V.cell? ⟨b,1,none⟩=some (.int .i64 (mm:Int))) (HX.out) fun _=>?_
      iterate 19 (refine tkA ?_;go_frame)
      refine skD 46 19 ?_;go_frame;refine skD 47 20 ?_;go_frame;refine skD 48 21 ?_;go_frame;refine skD 49 22 ?_;go_frame;refine skD 50 23 ?_;go_frame;refine skD 51 24 ?_;go_frame;refine skD 52 25 ?_;go_frame
      iterate 3 (refine tkA ?_;go_frame)
      refine dnD ?_;go_wp2;go_roundw
      case rel=>exact⟨i+1,_,false,by go_num,rfl,by rw[HN.out];omega,hLx,hBA.out,by rw[hBe.out];simp,hDt.out,hDr⟩
      case measure=>simp[intOf];omega
     |true=>
      refine rgD (fun V=>AK V z 6 8=some x.parent.cells/\V.cell? ⟨z,4,none⟩=some (.int .i64 x.signer)/\V.cell? ⟨z,1,none⟩=some (.int .i64 x.slot)/\AK V g 2 8=some par.cells/\V.cell? ⟨b,1,none⟩=some (.int .i64 (mm:Int))) (HX.out) fun _=>?_
      iterate 29 (refine tkA ?_;go_frame)
      refine dnD ?_;go_wp2;go_roundw
      case rel=>exact⟨i+1,_,dL,by go_num,rfl,by rw[HN.out];omega,hLx,hBA.out,by rw[hBe.out];simp,hDt.out,hDr⟩
      case measure=>simp[intOf];omega
  ·have di:=Wv (show n<=i by omega)
   have hLa:L=DL D:=by rw[HL.out,AT (by rw[HN.out];omega)]
   have hDa:d=Du par mm D:=by rw[HDd.out,AT (by rw[HN.out];omega)]
   have HLa:=AA hLa;have HDa:=AA hDa;clear hLa hDa HL HDd;go_wp2;go_ret2;exact⟨u6,by first|rfl|(rw[HDa.out];rfl)|simp[HDa.out],by rw[<-HLa.out];exact BS xF.out hb2.size,yP⟩
end

abbrev PrS.D(P:PrS):List Vt:=EY (P.L.map Sg.vs)
abbrev Fh(par:Nm)(mem:Nat)(pay:Nm):Vt:=⟨1,(mem:Int),0,1,(mem:Int),0,par,pay⟩
abbrev GmS.actd(G:GmS)(i b:Nat)(P:PrS):GmS:=G.setP i b {P with acts:=P.acts+1}
def Ke(i:Nat)(v:Vt)(G G':GmS):Prop:=∃(b:Nat) (P:PrS) (k:KyS) (sv0:Value) (sl:List Vt) (va vs:Value) (L:List Sg),
 G.ps[i]? =some (b,P)/\G.ks[P.mem]? =some k/\G.sg[P.mem]? =some (sv0,sl)/\(AW v/\P.leaf<1024)/\L.map Sg.vs=Cc (P.L.map Sg.vs++[(v,Ex k.seed P.leaf (Dx v))])/\G'=(G.setP i b (P.signd va L)).setS P.mem vs (sl++[v])
def Hv(i:Nat)(G:GmS)(o:Option Vt):Prop:=∃(b:Nat) (P:PrS),G.ps[i]? =some (b,P)/\Cj G.M G.par (P.mem:Int) P.D (DL P.D) (decide (2<P.acts)) o
structure E9 (i b m0:Nat)(a0:Int)(p0:Nm)(M0:Int)(y0:Nm)(ks0:List KyS)(c:Nat)(G:GmS)(P:PrS):Prop where
 hi:G.ps[i]? =some (b,P)
 mem:P.mem=m0
 acts:P.acts=a0
 pay:P.pay=y0
 par:G.par=p0
 M:G.M=M0
 ks:G.ks=ks0
 sg:∃x:Value×List Vt,G.sg[m0]? =some x/\x.2.length<=c+P.leaf
 len:P.L.length<=c+P.leaf
 val:∀x∈P.L,AW x.vote
 lf:P.leaf<=1024
theorem Cf(l:List VS)(x:Vt):x∈EY l↔x∈l.map (·.1):=by
 unfold EY;rw[List.mem_map,List.mem_map];constructor
 ·rintro⟨y,hy,rfl⟩;exact⟨y,(DC l).sub y hy,rfl⟩
 ·rintro⟨y,hy,rfl⟩;obtain⟨z,hz,e,_⟩:=(DC l).dom y hy;exact⟨z,hz,e⟩
theorem PrS.D_valid{P:PrS}(h:∀x∈P.L,AW x.vote):∀v∈P.D,AW v:=fun v hv=>by
 have:=(Cf (P.L.map Sg.vs) v).1 hv;simp only[List.map_map,List.mem_map,Function.comp_apply]at this;obtain⟨x,hx,rfl⟩:=this;exact h x hx
theorem Cj.due{M:Int}{p:Nm}{f:Int}{l:List Vt}{H:List Nm}{wt:Bool}{v:Vt}(hl:∀v∈l,AW v)(h:Cj M p f l H wt (some v)):∃s,s<=9/\Nk s p f (owF s p f l) v:=by
 obtain⟨s,hs,_,h⟩:=h;exact⟨s,hs,h.due hl hs⟩
theorem Ke.actK{i b mem c:Nat}{acts M:Int}{par pay:Nm}{ks:List KyS}{G G':GmS}{P:PrS}{v:Vt}(h:Ke i v G G')(k:E9 i b mem acts par M pay ks c G P):∃P',E9 i b mem acts par M pay ks c G' P'/\P'.leaf=P.leaf+1/\P.leaf<1024:=by
 obtain⟨b',P0,k0,sv0,sl,va,vs,L,h1,h2,h3,h4,h5,rfl⟩:=h;rw[k.hi]at h1;injection h1 with h1
 injection h1 with h1 h1'
 subst h1;subst h1';have hil:=(AF.1 k.hi).1;have hml:=(AF.1 h3).1;have xQ:L.length=(L.map Sg.vs).length:=by rw[Ab]
 have hcl:=FF (P.L.map Sg.vs++[(v,Ex k0.seed P.leaf (Dx v))]);rw[AI,Ab]at hcl;refine⟨P.signd va L,⟨List.getElem?_set_self hil,k.mem,k.acts,k.pay,k.par,k.M,k.ks,?_,?_,fun x hx=>?_,by have:=h4.2;show P.leaf+1<=1024;omega⟩,rfl,h4.2⟩
 ·obtain⟨x,hx,hx2⟩:=k.sg;rw[<-k.mem,h3]at hx;injection hx with hx
  subst hx;refine⟨(vs,sl++[v]),by rw[<-k.mem];exact List.getElem?_set_self hml,?_⟩;show(sl++[v]).length<=c+(P.leaf+1);have:sl.length<=c+P.leaf:=hx2;simp;omega
 ·show L.length<=c+(P.leaf+1);rw[xQ,h5];have:=k.len;simp at hcl;omega
 ·have hm:x.vs∈L.map Sg.vs:=List.mem_map_of_mem hx;rw[h5]at hm;have:=(DC _).sub _ hm;rcases AP.1 this with h|h
  ·obtain⟨y,hy,he⟩:=List.mem_map.1 h;have:y.vote=x.vote:=congrArg Prod.fst he;exact this▸k.val y hy
  ·have:x.vote=v:=congrArg Prod.fst (AM.1 h);exact this▸h4.1
section
open Go.RowKit
theorem D4(M:Int)(i:Nat)(hi:i<10):(BitVec.ofInt 64 M).getLsbD i=(xOf M).testBit i:=by
 have e:xOf M=(BitVec.ofInt 64 M).toNat%2^10:=by
  rw[BitVec.toNat_ofInt];unfold xOf;omega
 rw[e,Nat.testBit_mod_two_pow,decide_eq_true hi,Bool.true_and];rfl
theorem QK(a M:Int)(h:bits .andNot .i64 a M=0):InN (xOf a) (xOf M):=by
 have h1:IntKind.i64.wrap ((BitVec.ofInt 64 a&&& ~~~BitVec.ofInt 64 M).toNat:Int)=0:=h;have h2:(BitVec.ofInt 64 a&&& ~~~BitVec.ofInt 64 M)=0#64:=by
  have hlt:=(BitVec.ofInt 64 a&&& ~~~BitVec.ofInt 64 M).isLt;rw[IntKind.wrap_i64]at h1;apply BitVec.eq_of_toNat_eq;simp only[BitVec.toNat_ofNat];omega
 intro i hi hb;have h3:=congrArg (fun x:BitVec 64=>x.getLsbD i) h2;simp only[BitVec.getLsbD_and,BitVec.getLsbD_not,BitVec.getLsbD_zero,D4 a i hi,D4 M i hi,hb]at h3;have h64:decide (i<64)=true:=by simp;omega
 rw[h64]at h3;simpa using h3
theorem GQ{a b:Vt}(h:Bo a b=true):Co a b:=by
 unfold Bo at h;rw[Bool.and_eq_true,decide_eq_true_eq,decide_eq_true_eq]at h;exact h
theorem Lo{M:Int}{q:Nat}{v:Vt}{C:List Vt}{pr:Vt->Bool}(h:Df M q v C pr=true):∃S,InN S (xOf M)/\Ae S 10=q/\∀i,i<10->S.testBit i=true->∃w∈C,w.signer=(i:Int)/\pr w=true:=by
 unfold Df at h;rw[Bool.and_eq_true,Bool.and_eq_true,decide_eq_true_eq,decide_eq_true_eq,List.all_eq_true]at h;refine⟨xOf v.support,QK _ _ h.1,h.2.1,fun i hi hb=>?_⟩;have h1:=h.2.2 i (C9.2 ⟨hi,hb⟩);obtain⟨w,hw,h2⟩:=List.any_eq_true.1 h1;rw[Bool.and_eq_true,decide_eq_true_eq]at h2;exact⟨w,hw,h2.1,h2.2⟩
theorem Ox{M:Int}{p:Nm}{s:Int}{l O:List Vt}(h:RG M p s l O)(hx:0<Ae (xOf M) 10):OR (xOf M) p s l O where
 mem v hv:=(h.2 v hv).1
 ok v hv:=⟨(h.2 v hv).2.1.1,(h.2 v hv).2.2.1,(h.2 v hv).2.1.2.2⟩
 prev v hv hk hr:=by
  obtain⟨k,hkv⟩:=List.mem_iff_getElem?.1 hv;have ha:=h.1 k v hkv;unfold C4 at ha;rw[eq_comm,Bool.and_eq_true]at ha;have hb:=ha.2;unfold DD at hb;rw[if_neg (by omega),if_neg (by omega),if_pos hk]at hb;unfold Fn at hb;rw[if_neg (by omega),Bool.or_eq_true,Bool.and_eq_true,Bool.and_eq_true]at hb;have zK:∀w,w∈O.take k->w∈O:=fun w hw=>List.mem_of_mem_take hw
  rcases hb with⟨h1,h2⟩|⟨h1,h2⟩
  ·obtain⟨S,hS,hq,hw⟩:=Lo h1;refine⟨⟨S,hS,by omega,fun i hi hb=>?_⟩,?_⟩
   ·obtain⟨w,hw1,hw2,hw3⟩:=hw i hi hb;unfold Kr JU I8 at hw3;simp only[Bool.or_eq_true,Bool.and_eq_true,decide_eq_true_eq]at hw3;rcases hw3 with⟨e1,e2,e3⟩|⟨e1,e2,e3⟩
    ·exact⟨w,zK w hw1,hw2,e1,e2,.inl (GQ e3)⟩
    ·exact⟨w,zK w hw1,hw2,e1,e2,.inr e3⟩
   ·obtain⟨w,hw1,hw2⟩:=List.any_eq_true.1 h2;unfold pIn JU at hw2;simp only[Bool.and_eq_true,decide_eq_true_eq]at hw2;exact⟨w,zK w hw1,hw2.2.2.1,GQ hw2.2.2.2,.inl hw2.2.1⟩
  ·obtain⟨S,hS,hq,hw⟩:=Lo h1;refine⟨⟨S,hS,by omega,fun i hi hb=>?_⟩,?_⟩
   ·obtain⟨w,hw1,hw2,hw3⟩:=hw i hi hb;unfold I8 at hw3;simp only[Bool.and_eq_true,decide_eq_true_eq]at hw3;exact⟨w,zK w hw1,hw2,hw3.1,hw3.2.1,.inr hw3.2.2⟩
   ·obtain⟨w,hw1,hw2⟩:=List.any_eq_true.1 h2;unfold Is at hw2;simp only[Bool.and_eq_true,decide_eq_true_eq]at hw2;exact⟨w,zK w hw1,hw2.2.1,GQ hw2.2.2,.inr hw2.1⟩
 prec v hv hk hc:=by
  obtain⟨k,hkv⟩:=List.mem_iff_getElem?.1 hv;have ha:=h.1 k v hkv;unfold C4 at ha;rw[eq_comm,Bool.and_eq_true]at ha;have hb:=ha.2;unfold DD at hb;rw[if_neg (by omega),if_neg (by omega),if_neg (by omega),if_neg hc]at hb;obtain⟨S,hS,hq,hw⟩:=Lo hb;have hp:=IP hx;obtain⟨i,hi,ht⟩:=Bq 10 (show 0<Ae S 10 by omega);obtain⟨w,hw1,hw2,hw3⟩:=hw i hi ht;unfold It FP at hw3;simp only[Bool.and_eq_true,decide_eq_true_eq]at hw3;exact⟨w,List.mem_of_mem_take hw1,hw3.1.1,hw3.1.2,GQ hw3.2⟩
theorem Fs(S:Nat):∀n,Ae S n=(CK S n).length
 |0=>rfl
 |n+1=>by
  rw[C1,Fs S n];cases h:S.testBit n with
  |true=>rw[GB h];simp
  |false=>rw[EG h];simp
theorem Jr(S n:Nat):(CK S n).Nodup:=List.Pairwise.sublist List.filter_sublist List.nodup_range
theorem Js{l:List Nat}(hn:l.Nodup)(h9:∀i∈l,i<10):Ae (Fb l) 10=l.length:=by
 rw[Fs];refine(List.Perm.length_eq ?_);refine(List.perm_ext_iff_of_nodup (Jr _ _) hn).2 fun i=>?_
 rw[C9,GD];exact⟨fun h=>h.2,fun h=>⟨h9 i h,h⟩⟩
theorem Ft{S k i:Nat}(h:(CR S k).testBit i=true):S.testBit i=true/\i<10:=by
 have:=C9.1 (List.mem_of_mem_take (GD.1 h));exact⟨this.2,this.1⟩
theorem Jt{S k:Nat}(h:k<=Ae S 10):Ae (CR S k) 10=k:=by
 unfold CR;rw[Js ((Jr S 10).sublist (List.take_sublist _ _)) (fun i hi=>(C9.1 (List.mem_of_mem_take hi)).1),AZ,<-Fs];omega
theorem K2{a:Nat}{M:Int}(ha:a<1024)(h:InN a (xOf M)):bits .andNot .i64 (a:Int) M=0:=by
 have key:BitVec.ofInt 64 (a:Int)&&& ~~~BitVec.ofInt 64 M=0#64:=by
  apply BitVec.eq_of_getLsbD_eq;intro i hi;rw[BitVec.getLsbD_and,BitVec.getLsbD_not,BitVec.getLsbD_zero];rcases Nat.lt_or_ge i 10 with h10|h10
  ·rw[D4 _ i h10,D4 _ i h10,DU a ha];cases hb:a.testBit i with
   |false=>rfl
   |true=>rw[h i h10 hb];simp
  ·have e:(BitVec.ofInt 64 (a:Int)).getLsbD i=false:=by
    rw[BitVec.ofInt_natCast,BitVec.getLsbD_ofNat,Nat.testBit_lt_two_pow (Nat.lt_of_lt_of_le ha (Nat.pow_le_pow_right (by omega) h10:2^10<=2^i)),Bool.and_false]
   rw[e,Bool.false_and]
 show IntKind.i64.wrap ((BitVec.ofInt 64 (a:Int)&&& ~~~BitVec.ofInt 64 M).toNat:Int)=0;rw[key];rfl
theorem Np(a b:Nat)(i:Nat)(hi:i<10)(ha:a<1024)(hb:b<1024):(xOf (bits .andNot .i64 (a:Int) (b:Int))).testBit i=(a.testBit i&&!b.testBit i):=by
 have e:xOf (bits .andNot .i64 (a:Int) (b:Int))=(BitVec.ofInt 64 (a:Int)&&& ~~~BitVec.ofInt 64 (b:Int)).toNat%2^10:=by
  show xOf (IntKind.i64.wrap ((BitVec.ofInt 64 (a:Int)&&& ~~~BitVec.ofInt 64 (b:Int)).toNat:Int))=_;unfold xOf;rw[IntKind.wrap_i64];have:=(BitVec.ofInt 64 (a:Int)&&& ~~~BitVec.ofInt 64 (b:Int)).isLt;omega
 rw[e,Nat.testBit_mod_two_pow,decide_eq_true hi,Bool.true_and];show(BitVec.ofInt 64 (a:Int)&&& ~~~BitVec.ofInt 64 (b:Int)).getLsbD i=_;rw[BitVec.getLsbD_and,BitVec.getLsbD_not,D4 _ i hi,D4 _ i hi,DU a ha,DU b hb,decide_eq_true (show i<64 by omega),Bool.true_and]
theorem Oy{a b:Nat}(h:∀i,i<10->a.testBit i=true->b.testBit i=false):Ae (a|||b) 10=Ae a 10+Ae b 10:=by
 have h1:=FI a b 10;have h2:Ae (a&&& b) 10=0:=by
  refine Nat.eq_zero_of_not_pos fun hp=>?_
  obtain⟨i,hi,hb⟩:=Bq 10 hp;rw[Nat.testBit_and,Bool.and_eq_true]at hb;rw[h i hi hb.1]at hb;cases hb.2
 omega
theorem Ry{S T q:Nat}(hS:0<Ae S 10)(yh:S<1024)(hT10:T<1024)(hq:0<q)(h:q<=Ae (S|||T) 10):Ae (CR S 1|||CR (xOf (bits .andNot .i64 ((S|||T:Nat):Int) ((CR S 1:Nat):Int))) (q-1)) 10=q/\(∀i,i<10->(CR S 1|||CR (xOf (bits .andNot .i64 ((S|||T:Nat):Int) ((CR S 1:Nat):Int))) (q-1)).testBit i=true->(S|||T).testBit i=true)/\∃i,i<10/\S.testBit i=true/\(CR S 1|||CR (xOf (bits .andNot .i64 ((S|||T:Nat):Int) ((CR S 1:Nat):Int))) (q-1)).testBit i=true:=by
 obtain⟨o,ho⟩:=Wr (CR S 1);have ho10:o<1024:=by rw[ho];exact Dr _ _
 have ho1:Ae o 10=1:=by rw[ho];exact Jt hS
 have hoS:∀i,o.testBit i=true->S.testBit i=true/\i<10:=fun i hi=>by rw[ho]at hi;exact Ft hi
 obtain⟨U,hU⟩:=Wr (S|||T);have hU10:U<1024:=by rw[hU];exact Nat.or_lt_two_pow (n:=10) yh hT10
 obtain⟨R,hR⟩:=Wr (xOf (bits .andNot .i64 (U:Int) (o:Int)));rw[<-ho,<-hU,<-hR];have hRb:∀i,i<10->R.testBit i=(U.testBit i&&!o.testBit i):=fun i hi=>by rw[hR];exact Np U o i hi hU10 ho10
 have hoU:∀i,o.testBit i=true->U.testBit i=true:=fun i hi=>by rw[hU,Nat.testBit_or,(hoS i hi).1,Bool.true_or]
 have zN:Ae (o|||R) 10=Ae o 10+Ae R 10:=Oy fun i hi hb=>by rw[hRb i hi,hb];simp
 have hUle:Ae U 10<=Ae (o|||R) 10:=CM (fun i hi hb=>by
  rw[Nat.testBit_or,hRb i hi,hb];cases o.testBit i <;> rfl) 10 (AB _)
 rw[<-hU]at h;have hR1:q-1<=Ae R 10:=by omega
 have hl:=Jt hR1;refine⟨?_,fun i hi hb=>?_,?_⟩
 ·rw[Oy fun i hi hb=>?_,ho1,hl]
  ·omega
  ·cases hc:(CR R (q-1)).testBit i with
   |false=>rfl
   |true=>
    have:=(Ft hc).1;rw[hRb i hi,hb]at this;simp at this
 ·rw[Nat.testBit_or,Bool.or_eq_true]at hb;rcases hb with hb|hb
  ·exact hoU i hb
  ·have:=(Ft hb).1;rw[hRb i hi,Bool.and_eq_true]at this;exact this.1
 ·obtain⟨i,hi,hb⟩:=Bq 10 (show 0<Ae o 10 by omega);exact⟨i,hi,(hoS i hb).1,by rw[Nat.testBit_or,hb,Bool.true_or]⟩
def Sup(M:Int)(q:Nat)(v:Vt)(O:List Vt)(pr:Vt->Prop):Prop:=
 bits .andNot .i64 v.support M=0/\Ae (xOf v.support) 10=q/\∀i,i<10->(xOf v.support).testBit i=true->∃w∈O,w.signer=(i:Int)/\pr w
structure Alw (M:Int)(q:Nat)(v:Vt)(O:List Vt):Prop where
 prop:v.kind=1->v.signer=v.slot
 echo:v.kind=2->∃w∈O,w.kind=1/\Co v w
 first:v.kind=3->v.round=1->v.choice=0∨Sup M q v O fun w=>w.kind=2/\Co v w
 prev:v.kind=3->v.round≠1->
  (Sup M q v O (fun w=>w.kind=4/\w.round=v.round-1/\(Co v w∨w.choice=2))/\∃w∈O,(xOf v.support).testBit w.signer.toNat=true/\w.kind=4/\w.round=v.round-1/\Co v w)∨
  (Sup M q v O (fun w=>w.kind=4/\w.round=v.round-1/\w.choice=2)/\∃w∈O,w.kind=3/\w.round=v.round-1/\Co v w)
 prec:v.kind=4->v.choice≠2->Sup M q v O fun w=>w.kind=3/\w.round=v.round/\Co v w
 mix:v.kind=4->v.choice=2->Sup M q v O (fun w=>w.kind=3/\w.round=v.round)/\
  ∃w∈O,∃u∈O,(w.kind=3/\w.round=v.round)/\(u.kind=3/\u.round=v.round)/\((xOf v.support).testBit w.signer.toNat=true/\(xOf v.support).testBit u.signer.toNat=true)/\¬Co w u
def rk(v:Vt):Int:=4*v.round+v.kind
theorem Sup.mono{M:Int}{q:Nat}{v:Vt}{O O':List Vt}{pr:Vt->Prop}(h:Sup M q v O pr)(hs:∀w∈O,pr w->w∈O'):Sup M q v O' pr:=
 ⟨h.1,h.2.1,fun i hi hb=>by obtain⟨w,hw,h1,h2⟩:=h.2.2 i hi hb;exact⟨w,hs w hw h2,h1,h2⟩⟩
def Ok4(l:List Vt):Prop:=∀v∈l,AW v/\v.kind<=4
theorem Alw.mono{M:Int}{q:Nat}{v:Vt}{O O':List Vt}(hv:AW v)(hO:∀w∈O,AW w)(h:Alw M q v O)(hs:∀w∈O,rk w<rk v->w∈O'):Alw M q v O':=by
 unfold rk at hs;have h0:∀w∈O,w.kind=1∨w.kind=2->w.round=0:=fun w hw hk=>((hO w hw).2.2.2.2.1 hk).2.1
 refine⟨h.prop,fun hk=>?_,fun hk hr=>?_,fun hk hr=>?_,fun hk hc=>?_,fun hk hc=>?_⟩
 ·obtain⟨w,hw,h1,h2⟩:=h.echo hk;have e0:=(hv.2.2.2.2.1 (.inr hk)).2.1;exact⟨w,hs w hw (by have:=h0 w hw (.inl h1);omega),h1,h2⟩
 ·rcases h.first hk hr with h1|h1
  ·exact .inl h1
  ·exact .inr (h1.mono fun w hw hp=>hs w hw (by have:=h0 w hw (.inr hp.1);omega))
 ·rcases h.prev hk hr with⟨h1,w,hw,h2,h3,h4,h5⟩|⟨h1,w,hw,h2,h3,h4⟩
  ·exact .inl ⟨h1.mono fun w hw hp=>hs w hw (by omega),w,hs w hw (by omega),h2,h3,h4,h5⟩
  ·exact .inr ⟨h1.mono fun w hw hp=>hs w hw (by omega),w,hs w hw (by omega),h2,h3,h4⟩
 ·exact(h.prec hk hc).mono fun w hw hp=>hs w hw (by omega)
 ·obtain⟨h1,w,hw,u,hu,h2,h3,h4⟩:=h.mix hk hc;exact⟨h1.mono fun w hw hp=>hs w hw (by omega),w,hs w hw (by omega),u,hs u hu (by omega),h2,h3,h4⟩
structure B6 (M:Int)(q:Nat)(l O:List Vt):Prop where
 sub:∀v∈O,v∈l
 fix:∀v∈l,v∈O↔(xOf M).testBit v.signer.toNat=true/\Alw M q v O
theorem B6.carry{M:Int}{q:Nat}{l l' O O':List Vt}(hl:Ok4 l)(h:B6 M q l O)(h':B6 M q l' O'):∀(n:Nat) (v:Vt),v∈O->rk v<(n:Int)->v∈l'->(∀w∈l,rk w<rk v->w∈l')->v∈O':=by
 intro n
 induction n with
 |zero=>
  intro v hv hn _ _;exfalso;have hk:=(hl v (h.sub v hv)).1;have hr:0<=v.round:=by
   rcases(by have:=(hl v (h.sub v hv)).2;have:=hk.1.1;omega:(v.kind=1∨v.kind=2)∨v.kind=3∨v.kind=4)with e|e|e
   ·have:=(hk.2.2.2.2.1 e).2.1;omega
   ·have:=(hk.2.2.2.2.2.1 e).2.1;omega
   ·have:=(hk.2.2.2.2.2.2.1 e).2.1;omega
  have:=hk.1.1;unfold rk at hn;omega
 |succ n ih=>
  intro v hv hn hl' hd;have h1:=(h.fix v (h.sub v hv)).1 hv;refine(h'.fix v hl').2 ⟨h1.1,h1.2.mono (hl v (h.sub v hv)).1 (fun w hw=>(hl w (h.sub w hw)).1) fun w hw hr=>?_⟩;refine ih w hw (by omega) (hd w (h.sub w hw) hr) fun u hu hur=>hd u hu (by omega)
theorem U8(v:Vt):∃n:Nat,rk v<(n:Int):=⟨(rk v).toNat+1,by omega⟩
theorem B6.carry'{M:Int}{q:Nat}{l l' O O':List Vt}(hl:Ok4 l)(h:B6 M q l O)(h':B6 M q l' O'){v:Vt}(hv:v∈O)(hl':v∈l')(hd:∀w∈l,rk w<rk v->w∈l'):v∈O':=by
 obtain⟨n,hn⟩:=U8 v;exact h.carry hl h' n v hv hn hl' hd
theorem B6.mono{M:Int}{q:Nat}{l l' O O':List Vt}(hl:Ok4 l)(h:B6 M q l O)(h':B6 M q l' O')(hs:∀v∈l,v∈l'):∀v∈O,v∈O':=fun v hv=>
 h.carry' hl h' hv (hs v (h.sub v hv)) fun w hw _=>hs w hw
abbrev B0(pr:Vt->Bool)(O:List Vt):Nat:=Ae (BX pr O) 10
theorem Ju{pr pr':Vt->Bool}{O O':List Vt}(h:∀v∈O,pr v=true->∃w∈O',pr' w=true/\w.signer=v.signer):B0 pr O<=B0 pr' O':=by
 refine CM (fun i _ hb=>?_) 10 (AB _);obtain⟨v,hv,h1,h2⟩:=Cg.1 hb;obtain⟨w,hw,h3,h4⟩:=h v hv h1;exact Cg.2 ⟨w,hw,h3,by rw[h4];exact h2⟩
theorem D5{pr:Vt->Bool}{O:List Vt}{S:Nat}(h:∀i,i<10->S.testBit i=true->∃w∈O,w.signer=(i:Int)/\pr w=true):Ae S 10<=B0 pr O:=by
 refine CM (fun i hi hb=>?_) 10 (AB _);obtain⟨w,hw,h1,h2⟩:=h i hi hb;exact Cg.2 ⟨w,hw,h2,by rw[h1];rfl⟩
theorem Dp{pr:Vt->Bool}{O:List Vt}(hO:∀v∈O,AW v){i:Nat}(h:(BX pr O).testBit i=true):∃w∈O,w.signer=(i:Int)/\pr w=true:=by
 obtain⟨w,hw,h1,h2⟩:=Cg.1 h;have:=(hO w hw).2.1;exact⟨w,hw,by omega,h1⟩
theorem FT{M:Int}{q:Nat}{pr:Vt->Bool}{l O:List Vt}(h:B6 M q l O):InN (BX pr O) (xOf M):=fun i _ hb=>by
 obtain⟨w,hw,_,h2⟩:=Cg.1 hb;rw[<-h2];exact((h.fix w (h.sub w hw)).1 hw).1
theorem U9{a b:Vt->Bool}{O:List Vt}:BX a O|||BX b O=BX (fun v=>a v||b v) O:=by
 apply Nat.eq_of_testBit_eq;intro i;rw[Nat.testBit_or,Bool.eq_iff_iff,Bool.or_eq_true,Cg,Cg,Cg];constructor
 ·rintro(⟨v,hv,h1,h2⟩|⟨v,hv,h1,h2⟩)
  ·exact⟨v,hv,by rw[h1];rfl,h2⟩
  ·exact⟨v,hv,by rw[h1,Bool.or_true],h2⟩
 ·rintro⟨v,hv,h1,h2⟩;rw[Bool.or_eq_true]at h1;rcases h1 with h1|h1
  ·exact .inl ⟨v,hv,h1,h2⟩
  ·exact .inr ⟨v,hv,h1,h2⟩
theorem B3{k r:Int}{x:Vl}{v:Vt}:pV k r x v=true↔v.kind=k/\v.round=r/\Bh v=x:=by unfold pV pW;simp
theorem Nq{k r:Int}{v:Vt}:pA k r v=true↔v.kind=k/\v.round=r:=by unfold pA pW;simp
theorem En{k r:Int}{v:Vt}:pM k r v=true↔v.kind=k/\v.round=r/\v.choice=2:=by unfold pM pW;simp
theorem Cy{a b:Vt}:Co a b↔Bh a=Bh b:=by unfold Co Bh;simp
theorem Hw{M:Int}{q:Nat}{v:Vt}{C:List Vt}{pb:Vt->Bool}{pr:Vt->Prop}(h:∀w,pb w=true↔pr w):Df M q v C pb=true↔Sup M q v C pr:=by
 unfold Df Sup;rw[Bool.and_eq_true,Bool.and_eq_true,decide_eq_true_eq,decide_eq_true_eq,List.all_eq_true];refine and_congr Iff.rfl (and_congr Iff.rfl ⟨fun h1 i hi hb=>?_,fun h1 i hi=>?_⟩)
 ·obtain⟨w,hw,h2⟩:=List.any_eq_true.1 (h1 i (C9.2 ⟨hi,hb⟩));rw[Bool.and_eq_true,decide_eq_true_eq]at h2;exact⟨w,hw,h2.1,(h w).1 h2.2⟩
 ·obtain⟨w,hw,h2,h3⟩:=h1 i (C9.1 hi).1 (C9.1 hi).2;exact List.any_eq_true.2 ⟨w,hw,by rw[Bool.and_eq_true,decide_eq_true_eq];exact⟨h2,(h w).2 h3⟩⟩
theorem EL{a b:Vt}:Bo a b=true↔Co a b:=by
 unfold Bo Co;rw[Bool.and_eq_true,decide_eq_true_eq,decide_eq_true_eq]
theorem Tg{M:Int}{q:Nat}{v:Vt}{C:List Vt}(hk:1<=v.kind/\v.kind<=4):DD M q v C=true↔Alw M q v C:=by
 unfold DD;rcases(by omega:v.kind=1∨v.kind=2∨v.kind=3∨v.kind=4)with e|e|e|e
 ·rw[if_pos e,decide_eq_true_eq];exact⟨fun h=>⟨fun _=>h,fun h1=>by omega,fun h1=>by omega,fun h1=>by omega,fun h1=>by omega,fun h1=>by omega⟩,fun h=>h.prop e⟩
 ·rw[if_neg (by omega),if_pos e,List.any_eq_true];unfold Kq;simp only[Bool.and_eq_true,decide_eq_true_eq,EL];exact⟨fun h=>⟨fun h1=>by omega,fun _=>h,fun h1=>by omega,fun h1=>by omega,fun h1=>by omega,fun h1=>by omega⟩,fun h=>h.echo e⟩
 ·rw[if_neg (by omega),if_neg (by omega),if_pos e];unfold Fn;by_cases hr:v.round=1
  ·rw[if_pos hr,Bool.or_eq_true,decide_eq_true_eq,Hw (pr:=fun w=>w.kind=2/\Co v w) (fun w=>by unfold JT;rw[Bool.and_eq_true,decide_eq_true_eq,EL])];exact⟨fun h=>⟨fun h1=>by omega,fun h1=>by omega,fun _ _=>h,fun _ h1=>absurd hr h1,fun h1=>by omega,fun h1=>by omega⟩,fun h=>h.first e hr⟩
  ·have v1:∀w,JU v w=true↔w.kind=4/\w.round=v.round-1/\Co v w:=fun w=>by unfold JU;rw[Bool.and_eq_true,Bool.and_eq_true,decide_eq_true_eq,decide_eq_true_eq,EL]
   have v2:∀w,I8 v w=true↔w.kind=4/\w.round=v.round-1/\w.choice=2:=fun w=>by unfold I8;rw[Bool.and_eq_true,Bool.and_eq_true,decide_eq_true_eq,decide_eq_true_eq,decide_eq_true_eq]
   have v3:∀w,Kr v w=true↔w.kind=4/\w.round=v.round-1/\(Co v w∨w.choice=2):=fun w=>by
    unfold Kr;rw[Bool.or_eq_true,v1,v2];exact⟨fun h=>h.elim (fun h=>⟨h.1,h.2.1,.inl h.2.2⟩) fun h=>⟨h.1,h.2.1,.inr h.2.2⟩,fun h=>h.2.2.elim (fun x=>.inl ⟨h.1,h.2.1,x⟩) fun x=>.inr ⟨h.1,h.2.1,x⟩⟩
   rw[if_neg hr,Bool.or_eq_true,Bool.and_eq_true,Bool.and_eq_true,Hw v3,Hw v2,List.any_eq_true,List.any_eq_true];have v4:(∃w∈C,pIn v w=true)↔∃w∈C,(xOf v.support).testBit w.signer.toNat=true/\w.kind=4/\w.round=v.round-1/\Co v w:=by
    unfold pIn;simp only[Bool.and_eq_true,v1]
   have v5:(∃w∈C,Is v w=true)↔∃w∈C,w.kind=3/\w.round=v.round-1/\Co v w:=by
    unfold Is;simp only[Bool.and_eq_true,decide_eq_true_eq,EL]
   rw[v4,v5];exact⟨fun h=>⟨fun h1=>by omega,fun h1=>by omega,fun _ h1=>absurd h1 hr,fun _ _=>h,fun h1=>by omega,fun h1=>by omega⟩,fun h=>h.prev e hr⟩
 ·rw[if_neg (by omega),if_neg (by omega),if_neg (by omega)];have v1:∀w,FP v w=true↔w.kind=3/\w.round=v.round:=fun w=>by unfold FP;rw[Bool.and_eq_true,decide_eq_true_eq,decide_eq_true_eq]
  by_cases hc:v.choice=2
  ·rw[if_pos hc,Bool.and_eq_true,Hw v1];unfold LR;have v2:(C.any fun w=>DN v w&&C.any fun u=>DN v u&&!Bo w u)=true↔∃w∈C,∃u∈C,(w.kind=3/\w.round=v.round)/\(u.kind=3/\u.round=v.round)/\((xOf v.support).testBit w.signer.toNat=true/\(xOf v.support).testBit u.signer.toNat=true)/\¬Co w u:=by
    rw[List.any_eq_true];unfold DN;constructor
    ·rintro⟨w,hw,h⟩;rw[Bool.and_eq_true,Bool.and_eq_true,v1,List.any_eq_true]at h;obtain⟨⟨h1,h2⟩,u,hu,h3⟩:=h;rw[Bool.and_eq_true,Bool.and_eq_true,v1]at h3;exact⟨w,hw,u,hu,h1,h3.1.1,⟨h2,h3.1.2⟩,fun hs=>by rw[EL.2 hs]at h3;cases h3.2⟩
    ·rintro⟨w,hw,u,hu,h1,h2,h3,h4⟩;refine⟨w,hw,?_⟩;rw[Bool.and_eq_true,Bool.and_eq_true,v1,List.any_eq_true];refine⟨⟨h1,h3.1⟩,u,hu,?_⟩;rw[Bool.and_eq_true,Bool.and_eq_true,v1];refine⟨⟨h2,h3.2⟩,?_⟩;cases hb:Bo w u with
     |false=>rfl
     |true=>exact absurd (EL.1 hb) h4
   rw[v2];exact⟨fun h=>⟨fun h1=>by omega,fun h1=>by omega,fun h1=>by omega,fun h1=>by omega,fun _ h1=>absurd hc h1,fun _ _=>h⟩,fun h=>h.mix e hc⟩
  ·rw[if_neg hc,Hw (pr:=fun w=>w.kind=3/\w.round=v.round/\Co v w) (fun w=>by unfold It;rw[Bool.and_eq_true,v1,EL,and_assoc])];exact⟨fun h=>⟨fun h1=>by omega,fun h1=>by omega,fun h1=>by omega,fun h1=>by omega,fun _ _=>h,fun _ h1=>absurd h1 hc⟩,fun h=>h.prec e hc⟩
abbrev Eo(D:List Vt):Prop:=D.Pairwise fun a b=>Bf a b=true
theorem Rz(p:Nm)(l:List Vt):Eo (EX p l):=by
 unfold Eo EX;rw[List.pairwise_map];exact(DC _).asc
theorem Fu{p:Nm}{l:List Vt}{v:Vt}:v∈EX p l↔v∈l/\v.parent=p:=by
 refine⟨RN,fun⟨h1,h2⟩=>?_⟩;obtain⟨z,hz,e,_⟩:=(DC ((l.filter fun s=>decide (s.parent=p)).map fun v=>(v,([]:List UInt8)))).dom (v,[]) (List.mem_map.2 ⟨v,List.mem_filter.2 ⟨h1,decide_eq_true h2⟩,rfl⟩);exact List.mem_map.2 ⟨z,hz,e⟩
theorem QL{M:Int}{D:List Vt}{v:Vt}:CP M (D++[v])=if Em M (CP M D) v=true then CP M D++[v]else CP M D:=by
 unfold CP;rw[List.foldl_append];rfl
theorem Th{u v:Vt}(hu:AW u/\u.kind<=4)(hv:AW v/\v.kind<=4)(hp:u.parent=v.parent)(hs:u.slot=v.slot)(h:rk u<rk v):Bf u v=true:=by
 have k1:=hu.1.1;have k2:=hv.1.1;unfold rk at h;unfold Bf;rw[if_pos hp,if_pos hs];by_cases hr:u.round=v.round
 ·rw[if_pos hr,if_neg (by omega)];exact decide_eq_true (by omega)
 ·rw[if_neg hr];exact decide_eq_true (by omega)
theorem H5{M:Int}{D:List Vt}{u:Vt}(h:u∈CP M D):u∈D:=by
 have key:∀(D O:List Vt),u∈D.foldl (fun O v=>if Em M O v=true then O++[v]else O) O->u∈O∨u∈D:=by
  intro D
  induction D with
  |nil=>intro O h;exact .inl h
  |cons x D ih=>
   intro O h;rw[List.foldl_cons]at h;rcases ih _ h with h|h
   ·split at h
    ·rcases AP.1 h with h|h
     ·exact .inl h
     ·exact .inr (by rw[AM.1 h];exact Am)
    ·exact .inl h
   ·exact .inr (List.mem_cons_of_mem _ h)
 rcases key D [] h with h|h
 ·cases h
 ·exact h
theorem FA{M:Int}:∀(n:Nat) (D:List Vt),D.length=n->Eo D->∀(i:Nat) (v:Vt),D[i]? =some v->(v∈CP M D↔Em M (CP M (D.take i)) v=true):=by
 intro n
 induction n with
 |zero=>intro D hD _ i v hv;rw[AQ hD]at hv;simp at hv
 |succ n ih=>
  intro D hD hS i v hv;obtain⟨D',x,rfl⟩:∃D' x,D=D'++[x]:=⟨D.dropLast,D.getLast (by intro e;rw[e]at hD;cases hD),(List.dropLast_concat_getLast _).symm⟩;have hl:D'.length=n:=by simpa using hD
  have hS':=List.pairwise_append.1 hS;have hnx:¬x∈D':=fun hc=>by
   have:=hS'.2.2 x hc x Am;rw[CA]at this;cases this
  have sub:∀u,u∈CP M D'->u∈D':=fun u hu=>H5 hu
  rw[QL];by_cases hi:i<n
  ·have hv':D'[i]? =some v:=by rw[List.getElem?_append_left (by omega)]at hv;exact hv
   rw[List.take_append_of_le_length (by omega),<-ih D' hl hS'.1 i v hv'];have hne:v≠x:=fun e=>hnx (by rw[<-e];exact AN hv')
   split
   ·rw[AP,AM];exact⟨fun h=>h.elim id fun e=>absurd e hne,.inl⟩
   ·exact Iff.rfl
  ·have hi2:i=n:=by have:=(AF.1 hv).1;simp at this;omega
   subst hi2;have hvx:x=v:=by rw[List.getElem?_append_right (by omega),hl]at hv;simpa using hv
   subst hvx;rw[List.take_append_of_le_length (by omega),AT (by omega)];split
   ·rename_i h
    exact⟨fun _=>h,fun _=>BY _ Am⟩
   ·rename_i h
    exact⟨fun hc=>absurd (sub _ hc) hnx,fun hc=>absurd hc h⟩
theorem QM{M:Int}{D:List Vt}(hS:Eo D){i:Nat}{u:Vt}(hu:u∈CP M (D.take i)):u∈CP M D:=by
 obtain⟨j,hj⟩:=List.mem_iff_getElem?.1 (H5 hu);rw[BT]at hj;split at hj
 ·rename_i hji
  have h1:=(FA _ (D.take i) rfl (hS.sublist (List.take_sublist i D)) j u (by rw[BT,if_pos hji];exact hj)).1 hu;rw[List.take_take,Nat.min_eq_left (by omega)]at h1;exact(FA _ D rfl hS j u hj).2 h1
 ·cases hj
def vS(s:Nat)(p:Nm)(D:List Vt):List Vt:=D.filter fun v=>decide (v.slot=(s:Int))&&(decide (v.parent=p)&&decide (v.kind<=4))
theorem Bw{s:Nat}{p:Nm}{D:List Vt}{v:Vt}:v∈vS s p D↔v∈D/\v.slot=(s:Int)/\v.parent=p/\v.kind<=4:=by
 unfold vS;rw[List.mem_filter,Bool.and_eq_true,Bool.and_eq_true,decide_eq_true_eq,decide_eq_true_eq,decide_eq_true_eq]
theorem Gc{s:Nat}{p:Nm}{D:List Vt}(hD:∀v∈D,AW v):Ok4 (vS s p D):=fun v hv=>⟨hD v (Bw.1 hv).1,(Bw.1 hv).2.2.2⟩
theorem Nr{M:Int}{p:Nm}{s:Nat}{D X O:List Vt}(hD:∀v∈D,AW v)(hX:∀v,v∈X/\v.parent=p/\v.kind<=4↔v∈vS s p D)(zK:∀v∈X,v∈D/\v.slot=(s:Int))(hO:O=CP M (EX p X)):B6 M (Bd (Ae (xOf M) 10)) (vS s p D) O:=by
 have hS:=Rz p X;have kin:∀u∈O,u∈EX p X/\u.kind<=4:=fun u hu=>by
  rw[hO]at hu;have h1:=H5 hu;refine⟨h1,?_⟩;obtain⟨i,hi⟩:=List.mem_iff_getElem?.1 h1;have h2:=(FA _ _ rfl hS i u hi).1 hu;unfold Em at h2;rw[Bool.and_eq_true,decide_eq_true_eq]at h2;exact h2.1
 have inS:∀u,u∈EX p X->u.kind<=4->u∈vS s p D:=fun u hu hk=>(hX u).1 ⟨(Fu.1 hu).1,(Fu.1 hu).2,hk⟩
 refine⟨fun v hv=>inS v (kin v hv).1 (kin v hv).2,fun v hv=>?_⟩;have hvX:=(hX v).2 hv;have hva:v∈EX p X:=Fu.2 ⟨hvX.1,hvX.2.1⟩;have yC:=Gc hD v hv;obtain⟨i,hi⟩:=List.mem_iff_getElem?.1 hva;have e:v∈O↔Em M (CP M ((EX p X).take i)) v=true:=by rw[hO];exact FA _ _ rfl hS i v hi
 rw[e];unfold Em;rw[Bool.and_eq_true,Bool.and_eq_true,decide_eq_true_eq,Tg ⟨yC.1.1.1,yC.2⟩];have valT:∀u∈CP M ((EX p X).take i),AW u:=fun u hu=>hD u (zK u (Fu.1 (List.mem_of_mem_take (H5 hu))).1).1
 have valO:∀u∈O,AW u:=fun u hu=>hD u (zK u (Fu.1 (kin u hu).1).1).1
 constructor
 ·rintro⟨_,h1,h2⟩;exact⟨h1,h2.mono yC.1 valT fun w hw _=>by rw[hO];exact QM hS hw⟩
 ·rintro⟨h1,h2⟩;refine⟨yC.2,h1,h2.mono yC.1 valO fun w hw hr=>?_⟩;obtain⟨j,hj⟩:=List.mem_iff_getElem?.1 (kin w hw).1;have hvs:=Bw.1 hv;have hws:=Bw.1 (inS w (kin w hw).1 (kin w hw).2);have hCD:=Th ⟨valO w hw,(kin w hw).2⟩ yC (hws.2.2.1.trans hvs.2.2.1.symm) (hws.2.1.trans hvs.2.1.symm) hr;have hji:j<i:=by
   refine Classical.byContradiction fun hc=>?_
   rcases Nat.lt_or_ge i j with h|h
   ·obtain⟨a1,a2⟩:=AF.1 hi;obtain⟨b1,b2⟩:=AF.1 hj;have:=List.pairwise_iff_getElem.1 hS i j a1 b1 h;rw[a2,b2]at this;rw[F9 this]at hCD;cases hCD
   ·have e:j=i:=by omega
    subst e;rw[hi]at hj;injection hj with hj
    subst hj;rw[CA]at hCD;cases hCD
  have hj':((EX p X).take i)[j]? =some w:=by rw[BT,if_pos hji];exact hj
  have h3:Em M (CP M ((EX p X).take j)) w=true:=(FA _ _ rfl hS j w hj).1 (by rw[<-hO];exact hw);refine(FA _ _ rfl (hS.sublist (List.take_sublist i _)) j w hj').2 ?_;rw[List.take_take,Nat.min_eq_left (by omega)];exact h3
def acS(M:Int)(s:Nat)(p:Nm)(D:List Vt):List Vt:=CP M (EX p (vS s p D))
theorem Fv(M:Int)(s:Nat)(p:Nm){D:List Vt}(hD:∀v∈D,AW v):B6 M (Bd (Ae (xOf M) 10)) (vS s p D) (acS M s p D):=
 Nr hD (X:=vS s p D) (fun _=>⟨fun h=>h.1,fun h=>⟨h,(Bw.1 h).2.2.1,(Bw.1 h).2.2.2⟩⟩) (fun _ hv=>⟨(Bw.1 hv).1,(Bw.1 hv).2.1⟩) rfl
theorem B6.same{M:Int}{q:Nat}{l O O':List Vt}(hl:Ok4 l)(h:B6 M q l O)(h':B6 M q l O')(v:Vt):v∈O↔v∈O':=
 ⟨h.mono hl h' (fun _ hv=>hv) v,h'.mono hl h (fun _ hv=>hv) v⟩
def sg(v:Vt):Int:=2*v.round+v.kind-4
def Pc(v:Vt):Prop:=v.kind=3∨v.kind=4
instance (v:Vt):Decidable (Pc v):=by unfold Pc;infer_instance
def pSt(t:Nat)(v:Vt):Bool:=decide (Pc v)&&decide (sg v=(t:Int))
theorem H6{t:Nat}{v:Vt}:pSt t v=true↔Pc v/\sg v=(t:Int):=by unfold pSt;simp
def Own(D:List Vt)(i:Nat)(k r:Int):Prop:=∃u∈D,u.signer=(i:Int)/\u.kind=k/\u.round=r
def St(D:List Vt)(i t:Nat):Prop:=∃u∈D,u.signer=(i:Int)/\Pc u/\sg u=(t:Int)
theorem St.mono{D D':List Vt}{i t:Nat}(h:St D i t)(hs:∀v∈D,v∈D'):St D' i t:=by
 obtain⟨u,hu,r⟩:=h;exact⟨u,hs u hu,r⟩
def Gj(q:Nat)(O:List Vt):Prop:=∃(r:Int) (x:Vl),x.choice≠2/\q<=B0 (pV 4 r x) O
structure Ix (M:Int)(q:Nat)(cv:Int->List Vt->Vl->Prop)(i:Nat)(D OD:List Vt)(v:Vt):Prop where
 acc:B6 M q D OD
 alw:Alw M q v OD
 new:¬Own D i v.kind v.round
 prec:v.kind=4->Own D i 3 v.round/\((v.choice≠2/\q<=B0 (pV 3 v.round (Bh v)) OD)∨(v.choice=2/\(∀x,B0 (pV 3 v.round x) OD<q)/\q<=B0 (pA 3 v.round) OD))
 prev:v.kind=3->v.round≠1->Own D i 4 (v.round-1)/\
  ((Bp 4 (v.round-1) OD (Bh v)/\q<=B0 (fun w=>pV 4 (v.round-1) (Bh v) w||pM 4 (v.round-1) w) OD)∨
   ((∀x,Bp 4 (v.round-1) OD x->B0 (fun w=>pV 4 (v.round-1) x w||pM 4 (v.round-1) w) OD<q)/\q<=B0 (pM 4 (v.round-1)) OD/\cv (v.round-1) OD (Bh v)))
structure WK (q:Nat)(i:Nat)(W OW:List Vt)(wt:Prop):Prop where
 echo:Own W i 2 0∨∀w∈OW,w.kind≠1
 first:wt->Own W i 3 1
 prec:∀r:Int,1<=r->r<=12->Own W i 3 r->Own W i 4 r∨B0 (pA 3 r) OW<q
 prev:∀r:Int,1<=r->r<12->Own W i 4 r->Own W i 3 (r+1)∨((∀x,Bp 4 r OW x->B0 (fun w=>pV 4 r x w||pM 4 r w) OW<q)/\(B0 (pM 4 r) OW<q∨∀x,¬Bp 3 r OW x))
def Ns(M:Int)(q h:Nat):Prop:=∀S,InN S (xOf M)->q<=Ae S 10->∀i:Nat,∃j,j<10/\j≠i/\S.testBit j=true/\h.testBit j=true
structure Run (M:Int)(q h K:Nat)(cv:Int->List Vt->Vl->Prop)(V O:Nat->List Vt)(W OW:Nat->Nat->List Vt):Prop where
 q0:0<q
 hM:InN h (xOf M)
 hq:q<=Ae h 10
 meet:∀S S',InN S (xOf M)->InN S' (xOf M)->q<=Ae S 10->q<=Ae S' 10->∃j,j<10/\S.testBit j=true/\S'.testBit j=true/\h.testBit j=true
 ok:∀k,k<=K->Ok4 (V k)
 acc:∀k,k<=K->B6 M q (V k) (O k)
 accW:∀k,k<K->∀i,i<10->h.testBit i=true->B6 M q (W i k) (OW i k)
 sub:∀k,k<K->∀i,i<10->h.testBit i=true->(∀v∈V k,v∈W i k)/\∀v∈W i k,v∈V (k+1)
 cup:∀k,k<K->∀v∈V (k+1),∃i,i<10/\h.testBit i=true/\v∈W i k
 own:∀k,k<K->∀i,i<10->h.testBit i=true->∀v∈W i k,¬v∈V k->v.signer=(i:Int)/\(v.kind≠1->∃D OD,(∀w∈V k,w∈D)/\(∀w∈D,w∈W i k)/\Ix M q cv i D OD v)
 prop:∀k,k<K->1<=k->∀i,i<10->h.testBit i=true->∀v∈W i k,v.kind=1->v∈V k
 rest:∀k,k<K->∀i,i<10->h.testBit i=true->WK q i (W i k) (OW i k) (2<=k)
 uniq:∀u∈V K,∀v∈V K,∀i,i<10->h.testBit i=true->u.signer=(i:Int)->v.signer=(i:Int)->u.kind=v.kind->u.round=v.round->u=v
 start:∀v∈V 0,∀i,i<10->h.testBit i=true->v.signer=(i:Int)->Pc v->v∈O 0/\v.round<=3
 chain:∀v∈V 0,∀i,i<10->h.testBit i=true->v.signer=(i:Int)->(v.kind=4->Own (V 0) i 3 v.round)/\(v.kind=3->v.round≠1->Own (V 0) i 4 (v.round-1))
 car:∀r D D' l l' x y,B6 M q l D->B6 M q l' D'->(∀v∈l,v∈V K)->(∀v∈l',v∈V K)->cv r D x->cv r D' y->(∀z,Bp 3 r D z↔Bp 3 r D' z)->x=y
section
variable {M:Int}{q h K:Nat}{cv:Int->List Vt->Vl->Prop}{V O:Nat->List Vt}{W OW:Nat->Nat->List Vt}
abbrev Hn(h i:Nat):Prop:=i<10/\h.testBit i=true
theorem Run.someone(R:Run M q h K cv V O W OW):∃i,Hn h i:=by
 obtain⟨i,h1,h2⟩:=Bq 10 (Nat.lt_of_lt_of_le R.q0 R.hq);exact⟨i,h1,h2⟩
theorem Run.up1(R:Run M q h K cv V O W OW){k:Nat}(hk:k<K):∀v∈V k,v∈V (k+1):=fun v hv=>by
 obtain⟨i,hi⟩:=R.someone;exact(R.sub k hk i hi.1 hi.2).2 v ((R.sub k hk i hi.1 hi.2).1 v hv)
theorem Run.up(R:Run M q h K cv V O W OW){k:Nat}:∀d,k+d<=K->∀v∈V k,v∈V (k+d)
 |0,_,v,hv=>hv
 |d+1,hd,v,hv=>R.up1 (k:=k+d) (by omega) v (R.up d (by omega) v hv)
theorem Run.le(R:Run M q h K cv V O W OW){k k':Nat}(h1:k<=k')(h2:k'<=K):∀v∈V k,v∈V k':=fun v hv=>by
 have:=R.up (k'-k) (by omega) v hv;rwa[show k+(k'-k)=k' from by omega]at this
theorem Run.okW(R:Run M q h K cv V O W OW){k i:Nat}(hk:k<K)(hi:Hn h i):Ok4 (W i k):=fun v hv=>R.ok (k+1) hk v ((R.sub k hk i hi.1 hi.2).2 v hv)
theorem Run.val(R:Run M q h K cv V O W OW){k:Nat}(hk:k<=K):∀v∈O k,AW v:=fun v hv=>(R.ok k hk v ((R.acc k hk).sub v hv)).1
theorem Run.leO(R:Run M q h K cv V O W OW){k k':Nat}(h1:k<=k')(h2:k'<=K):∀v∈O k,v∈O k':=
 (R.acc k (by omega)).mono (R.ok k (by omega)) (R.acc k' h2) (R.le h1 h2)
theorem Run.leW(R:Run M q h K cv V O W OW){k i:Nat}(hk:k<K)(hi:Hn h i):∀v∈O k,v∈OW i k:=
 (R.acc k (by omega)).mono (R.ok k (by omega)) (R.accW k hk i hi.1 hi.2) (R.sub k hk i hi.1 hi.2).1
theorem Ix.into{i:Nat}{D OD l Ol:List Vt}{v:Vt}(r:Ix M q cv i D OD v)(hl:Ok4 l)(hO:B6 M q l Ol)(hs:∀w∈D,w∈l)(hv:v∈l)(hm:(xOf M).testBit v.signer.toNat=true):v∈Ol:=by
 have hD:Ok4 D:=fun w hw=>hl w (hs w hw)
 exact(hO.fix v hv).2 ⟨hm,r.alw.mono (hl v hv).1 (fun w hw=>(hD w (r.acc.sub w hw)).1) fun w hw _=>r.acc.mono hD hO hs w hw⟩
theorem Run.bit(R:Run M q h K cv V O W OW){i:Nat}(hi:Hn h i){v:Vt}(hv:v.signer=(i:Int)):(xOf M).testBit v.signer.toNat=true:=by
 rw[hv];exact R.hM i hi.1 hi.2
theorem Run.inv(R:Run M q h K cv V O W OW):∀k,k<=K->∀v∈V k,∀i,Hn h i->v.signer=(i:Int)->Pc v->v∈O k/\(v.kind=4->Own (V k) i 3 v.round)/\(v.kind=3->v.round≠1->Own (V k) i 4 (v.round-1)):=by
 intro k
 induction k with
 |zero=>
  intro _ v hv i hi hs hp;exact⟨(R.start v hv i hi.1 hi.2 hs hp).1,R.chain v hv i hi.1 hi.2 hs⟩
 |succ k ih=>
  intro hk v hv i hi hs hp;have mono:∀{a b:Int} {l:List Vt},(∀w∈l,w∈V (k+1))->Own l i a b->Own (V (k+1)) i a b:=fun hl ⟨u,hu,r⟩=>⟨u,hl u hu,r⟩
  by_cases hin:v∈V k
  ·obtain⟨h1,h2,h3⟩:=ih (by omega) v hin i hi hs hp;exact⟨R.leO (by omega) hk v h1,fun e=>mono (R.up1 hk) (h2 e),fun e e'=>mono (R.up1 hk) (h3 e e')⟩
  ·obtain⟨j,hj1,hj2,hw⟩:=R.cup k hk v hv;obtain⟨h1,h2⟩:=R.own k hk j hj1 hj2 v hw hin;have e:j=i:=by omega
   subst e;obtain⟨D,OD,_,hD,r⟩:=h2 (by unfold Pc at hp;omega);have hDV:∀w∈D,w∈V (k+1):=fun w hw=>(R.sub k hk j hj1 hj2).2 w (hD w hw)
   exact⟨r.into (R.ok (k+1) hk) (R.acc (k+1) hk) hDV hv (R.bit hi hs),fun e=>mono hDV (r.prec e).1,fun e e'=>mono hDV (r.prev e e').1⟩
theorem VA{v:Vt}(hv:AW v)(hp:Pc v):1<=v.round/\v.round<=12/\1<=sg v/\sg v<=24:=by
 unfold sg;rcases hp with e|e
 ·have:=(hv.2.2.2.2.2.1 e).2.1;omega
 ·have:=(hv.2.2.2.2.2.2.1 e).2.1;omega
theorem Run.down(R:Run M q h K cv V O W OW){k i t:Nat}(hk:k<=K)(hi:Hn h i)(ht:1<=t)(hs:St (V k) i (t+1)):St (V k) i t:=by
 obtain⟨v,hv,h1,h2,h3⟩:=hs;obtain⟨_,a,b⟩:=R.inv k hk v hv i hi h1 h2;unfold sg at h3;rcases h2 with e|e
 ·obtain⟨u,hu,h4,h5,h6⟩:=b e (by omega);exact⟨u,hu,h4,.inr h5,by unfold sg;omega⟩
 ·obtain⟨u,hu,h4,h5,h6⟩:=a e;exact⟨u,hu,h4,.inl h5,by unfold sg;omega⟩
theorem Run.downs(R:Run M q h K cv V O W OW){k i t:Nat}(hk:k<=K)(hi:Hn h i)(ht:1<=t):∀d,St (V k) i (t+d)->St (V k) i t
 |0,hs=>hs
 |d+1,hs=>R.downs hk hi ht d (R.down hk hi (by omega) hs)
theorem Run.at_le(R:Run M q h K cv V O W OW){k i t t':Nat}(hk:k<=K)(hi:Hn h i)(ht:1<=t)(hle:t<=t')(hs:St (V k) i t'):St (V k) i t:=
 R.downs hk hi ht (t'-t) (by rwa[show t+(t'-t)=t' from by omega])
theorem B6.below{l Ol:List Vt}(hO:B6 M q l Ol){v:Vt}(hv:v∈Ol)(hp:Pc v){t:Nat}(ht:sg v=(t+1:Nat))(h1:1<=t):q<=B0 (pSt t) Ol:=by
 obtain⟨_,a⟩:=(hO.fix v (hO.sub v hv)).1 hv;unfold sg at ht;have fin:∀{pr:Vt->Prop},Sup M q v Ol pr->(∀w,pr w->Pc w/\sg w=(t:Int))->q<=B0 (pSt t) Ol:=fun{pr} hs hf=>by
  rw[<-hs.2.1];exact D5 fun i hi hb=>by
   obtain⟨w,hw,h1,h2⟩:=hs.2.2 i hi hb;exact⟨w,hw,h1,H6.2 (hf w h2)⟩
 rcases hp with e|e
 ·rcases a.prev e (by omega)with⟨h,_⟩|⟨h,_⟩
  ·exact fin h fun w hw=>⟨.inr hw.1,by unfold sg;omega⟩
  ·exact fin h fun w hw=>⟨.inr hw.1,by unfold sg;omega⟩
 ·by_cases hc:v.choice=2
  ·exact fin (a.mix e hc).1 fun w hw=>⟨.inl hw.1,by unfold sg;omega⟩
  ·exact fin (a.prec e hc) fun w hw=>⟨.inl hw.1,by unfold sg;omega⟩
theorem Run.one(R:Run M q h K cv V O W OW){l Ol:List Vt}(hs:∀v∈l,v∈V K)(hO:B6 M q l Ol){r:Int}{x y:Vl}(hx:q<=B0 (pV 3 r x) Ol)(hy:q<=B0 (pV 3 r y) Ol):x=y:=by
 have hv:∀v∈Ol,AW v:=fun v hv=>(R.ok K (AB _) v (hs v (hO.sub v hv))).1
 obtain⟨j,hj,h1,h2,h3⟩:=R.meet _ _ (FT hO) (FT hO) hx hy;obtain⟨u,hu,u1,u2⟩:=Dp hv h1;obtain⟨w,hw,w1,w2⟩:=Dp hv h2;obtain⟨a1,a2,a3⟩:=B3.1 u2;obtain⟨b1,b2,b3⟩:=B3.1 w2;have:=R.uniq u (hs u (hO.sub u hu)) w (hs w (hO.sub w hw)) j hj h3 u1 w1 (by omega) (by omega);rw[<-a3,<-b3,this]
theorem B6.prevs{l Ol:List Vt}(hO:B6 M q l Ol){v:Vt}(hv:v∈Ol)(hk:v.kind=4)(hc:v.choice≠2):q<=B0 (pV 3 v.round (Bh v)) Ol:=by
 have a:=((hO.fix v (hO.sub v hv)).1 hv).2.prec hk hc;rw[<-a.2.1];exact D5 fun i hi hb=>by
  obtain⟨w,hw,h1,h2,h3,h4⟩:=a.2.2 i hi hb;exact⟨w,hw,h1,B3.2 ⟨h2,h3,(Cy.1 h4).symm⟩⟩
theorem Run.one4(R:Run M q h K cv V O W OW){l Ol:List Vt}(hs:∀v∈l,v∈V K)(hO:B6 M q l Ol){v w:Vt}(hv:v∈Ol)(hw:w∈Ol)(h1:v.kind=4)(h2:w.kind=4)(hr:v.round=w.round)(h3:v.choice≠2)(h4:w.choice≠2):Bh v=Bh w:=by
 have a:=hO.prevs hv h1 h3;have b:=hO.prevs hw h2 h4;rw[<-hr]at b;exact R.one hs hO a b
end
end
end Go.Proofs.YtadllffeoibelaaGreat
