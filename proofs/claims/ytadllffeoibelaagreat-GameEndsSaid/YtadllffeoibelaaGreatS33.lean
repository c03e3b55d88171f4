/-
  Parts of the proof. No condition.
-/
import Derived.Test.YtadllffeoibelaaGreatS31
import Derived.Test.YtadllffeoibelaaGreatS32
import Derived.ProofKit
import Derived.OpenShut
import Derived.Deep.Slices
import Derived.SizedLaws
open Go.Proofs.Tryz
namespace Go.Proofs.YtadllffeoibelaaGreat
set_option maxRecDepth 100000
set_option maxHeartbeats 32000000
set_option linter.all false
section
open Go.RowKit
attribute [local go_sem ↓] Go.wp_at_zero Go.wp_at_succ Aq Au Av Aw PM PN
attribute [local go_sem] BE BL BM BN SL SM AR AX AU
theorem Qa{v:Vt}(h:AW v):v.ok:=by
 obtain⟨_,_,_,h4,_⟩:=h;exact⟨by omega,by omega⟩
abbrev VT(y:Value×List Vt):List Vt:=EY (y.2.map fun v=>(v,([]:List UInt8)))
theorem SU{y:Value×List Vt}{v:Vt}:v∈VT y↔v∈y.2:=by
 rw[Cf,List.map_map];simp
theorem SV(y:Value×List Vt):(VT y).length<=y.2.length:=by
 show((Cc _).map _).length<=_;rw[Ab];have:=FF (y.2.map fun v=>(v,([]:List UInt8)));rwa[Ab]at this
theorem KC(f:Nat->Bool)(N p:Nat)(hp:p<N):bits .and .i64 (((DR f N:Nat):Int)/2^p) 1=if f p then 1 else 0:=by
 have e:(2:Int)^p=((2^p:Nat):Int):=by simp
 have h:=Ig f p N;rw[<-PS,decide_eq_true hp,Bool.true_and]at h;unfold inM at h;rw[e,Sl];rcases(by omega:((DR f N:Nat):Int)/((2^p:Nat):Int)%2=0∨((DR f N:Nat):Int)/((2^p:Nat):Int)%2=1)with h1|h1
 ·rw[h1]at h ⊢;rw[<-h];rfl
 ·rw[h1]at h ⊢;rw[<-h];rfl
theorem UD{n T:Nat}{T0 L0:Int}{sd:Nm}{G:GmS}(h:PlI n T0 L0 sd T G)(hn:n<=7)(i:Nat):i∈CY ((DR (hB n G) G.ps.length:Nat):Int) G.ps.length↔Hn G.hm i:=by
 rw[H8,PS,Ig,<-F3 h hn,Bool.and_eq_true,decide_eq_true_iff];constructor
 ·exact fun a=>a.2.2
 ·intro a;obtain⟨_,b,P,_,h1,_⟩:=h.proc hn ((F3 h hn).1 a);have:=(AF.1 h1).1;exact⟨this,this,a⟩
theorem PW{n:Nat}{G G':GmS}(h:G'.hon=G.hon):hB n G'=hB n G:=by
 funext i
 unfold hB;rw[show G'.hb i=(xOf G'.hon).testBit i from rfl,h]
theorem Qb(C:Cfg)(A:Option Addr)(k c:Nat)(l:List Stp)(w:World)(hk:l.length=k)(hr:Rd w w.heap.size A (l.flatMap stc))(hok:∀s∈l,s.vote.ok):Calls prog 6 #[C.val,.slice A k c] w fun e w'=>e= .returned (.bool true)/\Wx w w':=by
 obtain⟨w1,hw1⟩:=Wr (w.alloc (.cells C.cells 26));have hb1:Wx w w1:=by rw[hw1];exact(AC _ _).alloc (AB _) _
 obtain⟨q,hq⟩:=Wr w.heap.size;have hQ1:Blk w1 q 26 C.cells:=by rw[hw1,hq];exact Blk.new w _ _
 have x1:AK w1 q 0 11=some C.cells:=hQ1.row 11 rfl;obtain⟨d0,hd0⟩:=Wr (decide (k<=60));obtain⟨d1,hd1⟩:=Wr (decide (1<=C.n/\C.n<=7));have hDz:Hid (∀W,Calls prog 11 #[.slice A k c] W fun e w'=>e= .returned (.bool d0)/\w'=W):=fun W=>by rw[hd0];exact T6 A k c W
 have yp:Hid (∀W,Calls prog 12 #[C.val] W fun e w'=>e= .returned (.bool d1)/\Wx W w'):=fun W=>by rw[hd1];exact Mu C W
 have HAw:=AA Mx;have hCE:Hid (d0=true->d1=true->∀V,Wx w V->Calls prog 14 #[C.val,.slice A k c] V fun e w'=>∃g G Bs n,e= .returned (At g)/\Wx V w'/\V.heap.size<=Bs/\Bs<=w'.heap.size/\Ax Bs w' g G/\PlI n C.T C.L C.seed 60 G/\C.n=(n:Int)/\n<=7):=fun e0 e1 V hV=>by
  rw[hd0]at e0;rw[hd1]at e1;have e0:=of_decide_eq_true e0;have e1:=of_decide_eq_true e1;obtain⟨n,hn⟩:∃n:Nat,C.n=(n:Int):=⟨C.n.toNat,by omega⟩;have hC:C=Cfg.mk (n:Int) C.T C.L C.seed:=by rw[<-hn]
  rw[show C.val=(Cfg.mk (n:Int) C.T C.L C.seed).val by rw[<-hC]];exact(SO n (by omega) C.T C.L C.seed A k c l V hk e0 ((hr.below hV).more hV.size) hok).mono fun e w' ⟨g,G,Bs,a1,a2,a3,a4,a5,a6⟩=>⟨g,G,Bs,n,a1,a2,a3,a4,a5,a6,hn,by omega⟩
 have HW1:=AA hw1;have HQ:=AA hq;clear hw1 hq hQ1 hd0 hd1 hr hok hk;go_enter func6,ntmps6;go_upto_region 1 with fail
 simp only[<-HW1.out,<-HQ.out];have hsw:=hb1.size;cases d0 with
 |false=>
  clear hCE yp;go_wp2_with (first
   |(go_at_call 11;refine(hDz.out _).mono ?_;rintro en w2 ⟨rfl,hw2⟩;replace hw2:=hw2.symm;subst hw2)
   |(go_at_call 13;refine(HAw.out _).mono ?_;rintro en w3 ⟨rfl,hb3⟩)
   |fail)
  go_ret;exact⟨rfl,hb1.trans (hb3.mono hsw)⟩
 |true=>
 cases d1 with
 |false=>
  clear hCE;go_wp2_with (first
   |(go_at_call 11;refine(hDz.out _).mono ?_;rintro en w2 ⟨rfl,hw2⟩;replace hw2:=hw2.symm;subst hw2)
   |(go_at_call 12;refine(yp.out _).mono ?_;rintro en w3 ⟨rfl,hb3⟩)
   |(go_at_call 13;refine(HAw.out _).mono ?_;rintro en w4 ⟨rfl,hb4⟩)
   |fail)
  go_ret;exact⟨rfl,(hb1.trans (hb3.mono hsw)).trans (hb4.mono (AG hsw hb3.size))⟩
 |true=>
 go_upto_region 3 with(first
  |(go_at_call 11;refine(hDz.out _).mono ?_;rintro en w2 ⟨rfl,hw2⟩;replace hw2:=hw2.symm;subst hw2)
  |(go_at_call 12;refine(yp.out _).mono ?_;rintro en w3 ⟨rfl,hb3⟩)
  |fail)
 have xd:Wx w w3:=hb1.trans (hb3.mono hsw);have hq3:q<w3.heap.size:=by
  have h1:q<w1.heap.size:=by rw[HW1.out,HQ.out];simp
  exact Nat.lt_of_lt_of_le h1 hb3.size
 have x3:AK w3 q 0 11=some C.cells:=BC x1 hb3 (by rw[HW1.out,HQ.out];simp);have HPl:=AA (hCE.out (by trivial) (by trivial) w3 xd);clear hCE hDz yp x1;go_upto_region 4 with(go_at_call 14;refine HPl.out.mono ?_;rintro en w4 ⟨g,G,Bs,n,rfl,hb4,hB3,hB4,hG4,hI4,hCn,hn7⟩)
 have yW:Wx w w4:=xd.trans (hb4.mono xd.size);have hwB:w.heap.size<=Bs:=AG xd.size hB3;have hqB:q<Bs:=Nat.lt_of_lt_of_le hq3 hB3;have x4:w4.cell? ⟨q,0,none⟩=some (.int .i64 (n:Int)):=by
  rw[<-hCn];exact(EM (BC x3 hb4 hq3)).2 0 _ rfl
 have HX:Hid (∀V,Below Bs w4 V->V.cell? ⟨q,0,none⟩=some (.int .i64 (n:Int))):=fun V hV=>(hV.cell (p:=⟨q,0,none⟩) hqB).trans x4
 obtain⟨h,hh⟩:=Wr (Ae (xOf G.hon) 10);have hh10:h<=10:=by rw[hh];exact Eh _ _
 have hAd:Hid (∀V,Wx w4 V->Calls prog 16 #[At g] V fun e w'=>e= .returned (.int .i64 G.hon)/\w'=V):=fun V hV=>N5 (hG4.below hV)
 have hEM:Hid (∀V,Calls prog 15 #[.int .i64 G.hon] V fun e w'=>e= .returned (.int .i64 (h:Int))/\w'=V):=fun V=>by rw[hh];exact Cd G.hon V
 obtain⟨N,hN⟩:=Wr G.ps.length;have hN20:N<=14:=by have:=hI4.inv.psn;omega
 have HPr:Hid (∀V,Wx w4 V->Calls prog 17 #[At g] V fun e w'=>e= .returned (.int .i64 (N:Int))/\w'=V):=fun V hV=>by rw[hN];exact Ci (hG4.below hV)
 obtain⟨f,hF⟩:∃f:Nat->Bool,f=hB n G:=⟨_,rfl⟩
 --a process' member,and whether it is honest
 have HMm:Hid (∀p,p<N->∃m:Nat,m<=9/\(∀V,Wx w4 V->Calls prog 20 #[At g,.int .i64 (p:Int)] V fun e w'=>e= .returned (.int .i64 (m:Int))/\w'=V)/\∀V,Calls prog 19 #[.int .i64 G.hon,.int .i64 (m:Int)] V fun e w'=>e= .returned (.bool (f p))/\w'=V):=fun p hp=>by
  obtain⟨⟨b,P⟩,hP⟩:∃x,G.ps[p]? =some x:=⟨_,AE (by rw[<-hN];exact hp)⟩;have hm:=(hI4.inv.mem p b P hP).1;refine⟨P.mem,by omega,fun V hV=>Gl (hG4.below hV) hP,fun V=>?_⟩;rw[hF,<-hI4.hbm hP];exact ET G.hon P.mem (by omega) V
 --what was signed for member i
 have HSg:Hid (∀i,i<n->∃D:List Vt,D.length<=1000000/\(∀V,Wx w4 V->Calls prog 25 #[At g,.int .i64 (i:Int)] V (El V D))/\(∀V,Calls prog 19 #[.int .i64 G.hon,.int .i64 (i:Int)] V fun e w'=>e= .returned (.bool (f i))/\w'=V)/\∀y,G.sg[i]? =some y->∀v∈y.2,v∈D):=fun i hi=>by
  obtain⟨y,hy⟩:∃y,G.sg[i]? =some y:=⟨_,AE (by rw[hI4.inv.sgn];exact hi)⟩;have hl:=hI4.inv.slen hy;refine⟨VT y,by have:=SV y;omega,fun V hV=>N6 (hG4.below hV) hy (fun v hv=>Qa (hI4.inv.sgd i y hy v hv).1) (by omega),fun V=>?_,fun y' hy' v hv=>?_⟩
  ·rw[hF,show hB n G i=G.hb i by unfold hB;rw[decide_eq_true hi,Bool.true_and]];exact ET G.hon i (by omega) V
  ·rw[hy]at hy';injection hy' with hy'
   subst hy';exact SU.2 hv
 have hbx:Wx w4 w4:=AC _ _;have hbB:Below Bs w4 w4:=AC _ _;have hn7':(n:Int)<=7:=by omega
 have hHG:(h:Int)<=10:=by omega
 have hw1:IntKind.i64.wrap ((n:Int)-(h:Int))=(n:Int)-(h:Int):=EV _ (by omega);have hw2:IntKind.i64.wrap (3*((n:Int)-(h:Int)))=3*((n:Int)-(h:Int)):=EV _ (by omega);obtain⟨d3,hd3⟩:=Wr (decide ((n:Int)<=3*((n:Int)-(h:Int))));have HD3:=AA hd3;replace hd3:=hd3.symm;have HG4:=AA hG4;have HI4:=AA hI4;have HH:=AA hh;have HN:=AA hN;have HF:=AA hF;clear hG4 hI4 HPl x3 hb4 xd hh hN hCn hF;go_upto_region 6 with fail
 refine rgD (fun V=>V.cell? ⟨q,0,none⟩=some (.int .i64 (n:Int))) (HX.out _ hbB.drew) fun _=>?_
 iterate 3 (refine tkA ?_;go_frame)
 refine tkD 42 7 ?_;go_frame;refine tkD 43 8 ?_;go_frame;refine rd1 3 fun K hK=>?_
 go_simp;refine(hAd.out _ hbx.drew).mono ?_;rintro en w5 ⟨rfl,hw5⟩;replace hw5:=hw5.symm;subst hw5;go_wp2_with fail
 refine hK.out _ _ (HX.out _ hbB.drew) (fun _=>?_);clear hK K;try go_frame
 refine rd1 4 fun K hK=>?_
 go_simp;refine(hEM.out _).mono ?_;rintro en w5 ⟨rfl,hw5⟩;replace hw5:=hw5.symm;subst hw5;go_wp2_with fail
 refine hK.out _ _ (HX.out _ hbB.drew) (fun _=>?_);clear hK K;try go_frame
 iterate 3 (refine tkA ?_;go_frame)
 refine dnD ?_;cases d3 with
 |true=>
  go_wp2_with (first
   |(go_at_call 13;refine(HAw.out _).mono ?_;rintro en w6 ⟨rfl,hb6⟩)
   |fail)
  go_ret;exact⟨rfl,yW.drew.trans (hb6.mono yW.drew.size)⟩
 |false=>
 have hlt:3*((n:Int)-(h:Int))<n:=by
  have:=of_decide_eq_false HD3.out.symm;omega
 have HLt:Hid (3*((n:Int)-(Ae (xOf G.hon) 10:Nat))<n):=by rw[<-HH.out];exact hlt
 clear x4 hw1 hw2 hd3 HD3 hlt hEM HH hh10 hHG;go_wp2
 go_loopw [6,7] (fun mv iv wr=>∃p:Nat,mv= .int .i64 ((DR f p:Nat):Int)/\iv= .int .i64 (p:Int)/\p<=N/\Wx w4 wr) (fun _ iv _=>N-(intOf iv).toNat)
 case atStart=>exact⟨0,rfl,rfl,Nat.zero_le _,hbx.drew⟩
 case round=>
  obtain⟨p,rfl,rfl,hpN,hb⟩:=hrel;by_cases hp:p<N
  ·have dp:=Wu (show p<N by omega)
   obtain⟨m,hm9,hHH,hDF⟩:=HMm.out p hp;have zo:=AA hHH;have yu:=AA hDF;obtain⟨k,hk⟩:=Ws (f p);obtain⟨mk,hmk⟩:=Wr (DR f p);have hHI:mk<1048576:=by
    have h1:=Mw f p;have h2:2^p<=2^20:=Nat.pow_le_pow_right (by omega) (by omega);omega
   rw[<-hmk];rw[hk]at yu;have HK:=AA hk;have HMk:=AA hmk;have hwp:IntKind.u64.wrap (p:Int)=(p:Int):=by rw[IntKind.wrap_u64];omega
   clear hHH hDF hk hmk;cases k with
   |false=>
    go_wp2_with (first
     |(go_at_call 17;refine(HPr.out _ hb).mono ?_;rintro en w5 ⟨rfl,hw5⟩;replace hw5:=hw5.symm;subst hw5)
     |(go_at_call 16;refine(hAd.out _ hb).mono ?_;rintro en w5 ⟨rfl,hw5⟩;replace hw5:=hw5.symm;subst hw5)
     |(go_at_call 20;refine(zo.out _ hb).mono ?_;rintro en w5 ⟨rfl,hw5⟩;replace hw5:=hw5.symm;subst hw5)
     |(go_at_call 19;refine(yu.out _).mono ?_;rintro en w5 ⟨rfl,hw5⟩;replace hw5:=hw5.symm;subst hw5)
     |fail)
    go_roundw
    case rel=>exact⟨p+1,by rw[show DR f (p+1)=mk by rw[DR,HK.out,HMk.out];rfl],by go_num,by omega,hb⟩
    case measure=>simp[intOf];omega
   |true=>
    go_wp2_with (first
     |(go_at_call 17;refine(HPr.out _ hb).mono ?_;rintro en w5 ⟨rfl,hw5⟩;replace hw5:=hw5.symm;subst hw5)
     |(go_at_call 16;refine(hAd.out _ hb).mono ?_;rintro en w5 ⟨rfl,hw5⟩;replace hw5:=hw5.symm;subst hw5)
     |(go_at_call 20;refine(zo.out _ hb).mono ?_;rintro en w5 ⟨rfl,hw5⟩;replace hw5:=hw5.symm;subst hw5)
     |(go_at_call 19;refine(yu.out _).mono ?_;rintro en w5 ⟨rfl,hw5⟩;replace hw5:=hw5.symm;subst hw5)
     |fail)
    go_roundw
    case rel=>exact⟨p+1,by rw[show DR f (p+1)=mk|||2^p by rw[DR,HK.out,HMk.out];rfl,<-SR mk p hHI (by omega)],by go_num,by omega,hb⟩
    case measure=>simp[intOf];omega
  ·have dp:=Wv (show N<=p by omega)
   have e:p=N:=by omega
   subst e;obtain⟨mk,hmk⟩:=Wr (DR f p);rw[<-hmk];have HMk:=AA hmk;clear hmk;generalize wr=w5 at*;go_upto_region 14 with(go_at_call 17;refine(HPr.out _ hb).mono ?_;rintro en w6 ⟨rfl,hw6⟩;replace hw6:=hw6.symm;subst hw6)
   clear HPr dp hp HMm hpN;go_wp2
   go_loopw [8] (fun iv wr=>∃i:Nat,iv= .int .i64 (i:Int)/\i<=n/\Wx w4 wr/\∀j,j<i->f j=true->∀y,G.sg[j]? =some y->∀v∈y.2,v.round<=3) (fun iv _=>n-(intOf iv).toNat)
   case atStart=>exact⟨0,rfl,Nat.zero_le _,hb,fun j hj=>absurd hj (Nat.not_lt_zero _)⟩
   case round=>
    obtain⟨i,rfl,hin,hb6,hRd⟩:=hrel;have HRd:=AA hRd;have x5:=HX.out wr (hb6.mono hB4);clear hRd;by_cases hi:i<n
    ·have di:=Wu (show i<n by omega)
     obtain⟨D,hD6,hSg,hDF,hDy⟩:=HSg.out i hi;have hHJ:=AA (hSg wr hb6);have yu:=AA hDF;have HDy:=AA hDy;clear hSg hDF hDy;go_upto_region 18 with(go_at_call 25;refine hHJ.out.mono ?_;rintro en w7 ⟨v7,rfl,hb7,xE⟩;obtain⟨AD,cD,rfl,hRD⟩:=Bg xE)
     obtain⟨nD,hnD⟩:=Ws D.length;rw[hnD]at hD6 ⊢;have HRD:=AA hRD;have HND:=AA hnD;have yZ:Wx w4 w7:=hb6.trans (hb7.mono hb6.size);obtain⟨k1,hk1⟩:=Ws (f i);rw[hk1]at yu;have HK1:=AA hk1;clear hRD hnD xE hHJ x5 hb6 hb7 hk1;go_wp2
     go_loopw [73] (fun jv wr=>∃j:Nat,jv= .int .i64 (j:Int)/\j<=nD/\Wx w7 wr/\(f i=true->∀v∈D.take j,v.round<=3)) (fun jv _=>nD-(intOf jv).toNat)
     case atStart=>exact⟨0,rfl,Nat.zero_le _,AC _ _,fun _ v hv=>by simp at hv⟩
     case round=>
      obtain⟨j,rfl,hjn,hb8,hTk⟩:=hrel;have HTk:=AA hTk;clear hTk;by_cases hj:j<nD
      ·have dj:=Wu (show j<nD by omega)
       obtain⟨x,hx⟩:∃x,D[j]? =some x:=⟨_,AE (by rw[HND.out];exact hj)⟩;obtain⟨bD,oD,rfl,hbD,_⟩:=HRD.out.cells (by intro e;have:=AY vtc 22 D (CI D);rw[e,HND.out]at this;simp at this;omega);have x1:AK wr bD (oD+j*22) 22=some x.cells:=(HRD.out.below hb8).voteRow hx;have HXx:=AA hx;clear hx hbD;go_upto_region 20 with(refine AJ rfl 46 (.tmp 10) (.tmp 76) rfl wr.heap.size x.cells rfl rfl 46 Bk.cells (Blk.new wr _ _) (by rfl) (by kernel_rfl) (fun u hu=>BH x hu) ?_;intro w9 hB9 hg9 xg)
       have yc:Wx w7 w9:=(hb8.alloc hb8.size _).grown hg9 (AG hb8.size (by simp)) (Wt hb8.size);have hDG:Wx w4 w9:=yZ.trans (yc.mono yZ.size);have x7:w9.cell? ⟨wr.heap.size,2,none⟩=some (.int .i64 x.round):=hB9.cell 2;obtain⟨rd,hrd⟩:=Wr x.round;rw[<-hrd]at x7;have HRnd:=AA hrd;clear hB9 hg9 xg x1 hb8 hrd;cases k1 with
       |false=>
        go_wp2_with (first
         |(go_at_call 16;refine(hAd.out _ hDG).mono ?_;rintro en w10 ⟨rfl,yN⟩;replace yN:=yN.symm;subst yN)
         |(go_at_call 19;refine(yu.out _).mono ?_;rintro en w10 ⟨rfl,yN⟩;replace yN:=yN.symm;subst yN)
         |fail)
        go_roundw
        case rel=>exact⟨j+1,by go_num,by omega,yc,fun e=>by rw[HK1.out]at e;cases e⟩
        case measure=>simp[intOf];omega
       |true=>
        by_cases hr3:(3:Int)<rd
        ·have dr:decide ((3:Int)<rd)=true:=decide_eq_true hr3;go_wp2_with (first
          |(go_at_call 16;refine(hAd.out _ hDG).mono ?_;rintro en w10 ⟨rfl,yN⟩;replace yN:=yN.symm;subst yN)
          |(go_at_call 19;refine(yu.out _).mono ?_;rintro en w10 ⟨rfl,yN⟩;replace yN:=yN.symm;subst yN)
          |(go_at_call 13;refine(HAw.out _).mono ?_;rintro en w11 ⟨rfl,yr⟩)
          |fail)
         go_ret;exact⟨rfl,(yW.trans (hDG.mono yW.size)).trans (yr.mono (AG yW.size hDG.size))⟩
        ·have dr:decide ((3:Int)<rd)=false:=decide_eq_false hr3;go_wp2_with (first
          |(go_at_call 16;refine(hAd.out _ hDG).mono ?_;rintro en w10 ⟨rfl,yN⟩;replace yN:=yN.symm;subst yN)
          |(go_at_call 19;refine(yu.out _).mono ?_;rintro en w10 ⟨rfl,yN⟩;replace yN:=yN.symm;subst yN)
          |fail)
         go_roundw
         case rel=>
          refine⟨j+1,by go_num,by omega,yc,fun e v hv=>?_⟩;rw[Ah,HXx.out,BF,AP,AM]at hv;rcases hv with hv|rfl
          ·exact HTk.out e v hv
          ·rw[<-HRnd.out];omega
         case measure=>simp[intOf];omega
      ·have dj:=Wv (show nD<=j by omega)
       have zq:Wx w4 wr:=yZ.trans (hb8.mono yZ.size);go_wp2;go_roundw
       case rel=>
        refine⟨i+1,by go_num,by omega,zq,fun j' hj' hfj y hy v hv=>?_⟩;rcases Nat.lt_or_ge j' i with h1|h1
        ·exact HRd.out j' h1 hfj y hy v hv
        ·have e:j'=i:=by omega
         subst e;have hv:=HDy.out y hy v hv;rw[<-AT (Nat.le_of_eq HND.out)]at hv;exact HTk.out hfj v (by rwa[show nD=j by omega]at hv)
       case measure=>simp[intOf];omega
    ·have di:=Wv (show n<=i by omega)
     have hHK:Hid (∀j,Hn G.hm j->∀y,G.sg[j]? =some y->∀v∈y.2,v.round<=3):=fun j hj=>HRd.out j (by have:=(HI4.out.proc hn7 hj).1;omega) (by rw[HF.out];exact(F3 HI4.out hn7).2 hj)
     generalize wr=w6 at*;go_upto_region 23 with fail
     clear HRd HSg x5 di hi hin hAd;have hG6:Hid (Ax Bs w6 g G):=HG4.out.below hb6;have hB6:Bs<=w6.heap.size:=AG hB4 hb6.size;have hb6B:Below Bs w4 w6:=hb6.mono hB4;go_wp2
     go_loopw [11] (fun rv wr=>∃(r:Nat) (G':GmS),rv= .int .i64 (r:Int)/\StH r G'/\Below Bs w4 wr/\Bs<=wr.heap.size/\Ax Bs wr g G'/\PlI n C.T C.L C.seed (60+16*r) G'/\G'.hon=G.hon/\G'.ps.length=p/\(r=0->G'=G)) (fun rv _=>38-(intOf rv).toNat)
     case atStart=>exact⟨0,G,rfl,HI4.out.head0 hn7,hb6B,hB6,hG6.out,HI4.out,rfl,HN.out.symm,fun _=>rfl⟩
     case round=>
      obtain⟨r,G1,rfl,hSt,hbr,hBr,hG1,hI1,hBi,hps,hr0⟩:=hrel;have hr31:r<=31:=hSt.1;have dr:decide ((r:Int)<38)=true:=by simp;omega
      have hf1:f=hB n G1:=by rw[HF.out,PW hBi]
      have hHL:Hid (∀V,Wx wr V->Calls prog 17 #[At g] V fun e w'=>e= .returned (.int .i64 (p:Int))/\w'=V):=fun V hV=>by rw[<-hps];exact Ci (hG1.below hV)
      have hHM:Hid (∀i,i<p->∃(b:Nat) (P:PrS),G1.ps[i]? =some (b,P)/\∀V,Wx wr V->Calls prog 18 #[At g,.int .i64 (i:Int)] V (R8 P V)):=fun i hi=>by
       obtain⟨⟨b,P⟩,hP⟩:∃x,G1.ps[i]? =some x:=⟨_,AE (by rw[hps];exact hi)⟩;exact⟨b,P,hP,fun V hV=>FU (hG1.below hV) hP (by have:=(hI1.dec i b P hP).1;omega)⟩
      have HSt:=AA hSt;have HG1:=AA hG1;have HI1:=AA hI1;have HHn:=AA hBi;have HPs:=AA hps;have HR0:=AA hr0;have HF1:=AA hf1;clear hSt hG1 hI1 hBi hps hr0 hf1;generalize wr=w7 at*;go_upto_region 28 with fail
      go_loopw [12,13] (fun dv iv wr=>∃i:Nat,dv= .bool (Iz f G1.ps i)/\iv= .int .i64 (i:Int)/\i<=p/\Wx w7 wr) (fun _ iv _=>p-(intOf iv).toNat)
      case atStart=>exact⟨0,rfl,rfl,Nat.zero_le _,AC _ _⟩
      case round=>
       obtain⟨i,rfl,rfl,hip,hb8⟩:=hrel;by_cases hi:i<p
       ·have di:=Wu (show i<p by omega)
        obtain⟨b,P,hP,hDc⟩:=hHM.out i hi;have HDc:=AA (hDc wr hb8);have hst:=N8 (f:=f) hP;have hHN:=AA hst;obtain⟨d0,hd0⟩:=Ws (Iz f G1.ps i);obtain⟨d1,hd1⟩:=Ws P.dd;obtain⟨d2,hd2⟩:=Ws (f i);have hBE:bits .and .i64 ((mk:Int)/2^i) 1=if d2 then 1 else 0:=by rw[<-hd2,HMk.out];exact KC f p i hi
        have hwp:IntKind.u64.wrap (i:Int)=(i:Int):=by rw[IntKind.wrap_u64];omega
        rw[hd0,hd1,hd2]at hHN;rw[hd0];clear hP hDc hst hd0 hd2;go_upto_region 31 with(first
         |(go_at_call 17;refine(hHL.out _ hb8).mono ?_;rintro en w9 ⟨rfl,hw9⟩;replace hw9:=hw9.symm;subst hw9)
         |(go_at_call 18;refine HDc.out.mono ?_;rintro en w9 ⟨v9,rfl,hb9,_,_⟩)
         |fail)
        try rw[hd1]
        have yc:Wx w7 w9:=hb8.trans (hb9.mono hb8.size);clear hd1 HDc;cases d0 <;> cases d1 <;> cases d2 <;> simp only[if_true,if_false,Bool.false_eq_true]at hBE <;> go_wp2 <;> go_roundw
        all_goals first
         |exact⟨i+1,by rw[hHN.out];rfl,by go_num,by omega,yc⟩
         |(simp[intOf];omega)
       ·have di:=Wv (show p<=i by omega)
        have e:i=p:=by omega
        subst e;obtain⟨d0,hd0⟩:=Ws (Iz f G1.ps i);rw[hd0];have HD0:Hid (d0=true↔EN G1):=by
         rw[<-hd0,HF1.out,<-HPs.out];exact QZ HI1.out hn7
        have hb7B:Below Bs w4 wr:=hbr.trans (hb8.mono hBr);have hG8:Ax Bs wr g G1:=HG1.out.below hb8;have hB8:Bs<=wr.heap.size:=AG hBr hb8.size;have hDH:Hid (∀V,Wx wr V->Calls prog 17 #[At g] V fun e w'=>e= .returned (.int .i64 (i:Int))/\w'=V):=fun V hV=>hHL.out V (hb8.trans (hV.mono hb8.size))
        have hE1:Wx wr wr:=AC _ _;have HG8:=AA hG8;clear hd0 hHM hG8 hip;generalize wr=w8 at*;cases d0 with
        |false=>
         have HNo:Hid (¬EN G1):=fun h=>by have:=HD0.out.2 h;cases this
         have HDo:Hid (Calls prog 22 #[At g,.agg #[.int .i64 2,.int .i64 0,.int .i64 (mk:Int),.int .i64 0,.int .i64 0,.int .i64 0,.int .i64 0,.int .i64 0,.int .i64 0,.int .u8 0,.int .u8 0,.int .u8 0,.int .u8 0,.int .u8 0,.int .u8 0,.int .u8 0,.int .u8 0,.int .u8 0,.int .u8 0,.int .u8 0,.int .u8 0,.int .u8 0,.int .u8 0,.int .u8 0,.int .u8 0]] w8 fun e w'=>e= .returned (.int .i64 0)/\Below Bs w8 w'/\∃G',Ax Bs w' g G'/\PlI n C.T C.L C.seed (60+16*r+1) G'/\G'.hon=G.hon/\G'.ps.length=i/\StM r 0 G'):=by
          refine(PQ (Stp.mk 2 0 (mk:Int) ⟨0,0,0,0,0,0,Nm.zero,Nm.zero⟩) 0 (.inr rfl) HG8.out hB8 HI1.out (by omega)).mono ?_;rintro e w' ⟨a1,a2,G2,G',a3,a4,a5,a6,_,a7⟩;have a7:=a7 rfl;have e1:CY (Stp.mk 2 0 (mk:Int) ⟨0,0,0,0,0,0,Nm.zero,Nm.zero⟩).procs G1.ps.length=CY ((DR (hB n G1) G1.ps.length:Nat):Int) G1.ps.length:=by
           rw[<-HF1.out,HPs.out,<-HMk.out]
          rw[e1]at a7;have zR:3*((n:Int)-(Ae (xOf G1.hon) 10:Nat))<n:=by rw[HHn.out];exact HLt.out
          obtain⟨s1,s2,s3,s4⟩:=HSt.out.meet HNo.out HI1.out hn7 zR (UD HI1.out hn7) a7 a6 a5 (fun h0=>by rw[HR0.out h0];exact hHK.out);refine⟨a1,a2,G',a3,a5,by rw[s4];exact HHn.out,?_,s1⟩;rw[a6.keep.1];obtain⟨ps1,rfl,e2,_⟩:=a7;exact e2.trans HPs.out
         clear HR0 HD0 HSt HI1 HG8;go_upto_region 34 with(first
          |(go_at_call 17;refine(hDH.out _ hE1).mono ?_;rintro en w9 ⟨rfl,hw9⟩;replace hw9:=hw9.symm;subst hw9)
          |(go_at_call 22;refine HDo.out.mono ?_;rintro en w9 ⟨rfl,hb9,G2,hG2,hI2,hh2,hl2,hS2⟩)
          |fail)
         have hb9B:Below Bs w4 w9:=hb7B.trans hb9;have hB9:Bs<=w9.heap.size:=AG hB8 hb9.size;have HS2:=AA (And.intro hG2 (And.intro hI2 (And.intro hh2 (And.intro hl2 hS2))));clear HDo hG2 hI2 hh2 hl2 hS2 hb9;go_wp2
         go_loopw [16] (fun jv wr=>∃(j:Nat) (G':GmS),jv= .int .i64 (j:Int)/\j<=i/\Below Bs w4 wr/\Bs<=wr.heap.size/\Ax Bs wr g G'/\PlI n C.T C.L C.seed (60+16*r+1+j) G'/\G'.hon=G.hon/\G'.ps.length=i/\StM r j G') (fun jv _=>i-(intOf jv).toNat)
         case atStart=>exact⟨0,G2,rfl,Nat.zero_le _,hb9B,hB9,HS2.out.1,HS2.out.2.1,HS2.out.2.2.1,HS2.out.2.2.2.1,HS2.out.2.2.2.2⟩
         case round=>
          obtain⟨j,G3,rfl,hji,hBW,hD0,hG3,hI3,hh3,hl3,hS3⟩:=hrel;have hE2:Hid (∀V,Wx wr V->Calls prog 17 #[At g] V fun e w'=>e= .returned (.int .i64 (i:Int))/\w'=V):=fun V hV=>by rw[<-hl3];exact Ci (hG3.below hV)
          have hDI:Wx wr wr:=AC _ _;have hf3:f=hB n G3:=by rw[HF.out,PW hh3]
          have HF3:=AA hf3;have HS3:=AA (And.intro hG3 (And.intro hI3 (And.intro hh3 (And.intro hl3 hS3))));clear hG3 hI3 hh3 hl3 hS3 hf3;by_cases hj:j<i
          ·have dj:=Wu (show j<i by omega)
           obtain⟨d2,hd2⟩:=Ws (f j);have hBE:bits .and .i64 ((mk:Int)/2^j) 1=if d2 then 1 else 0:=by rw[<-hd2,HMk.out];exact KC f i j hj
           have hwp:IntKind.u64.wrap (j:Int)=(j:Int):=by rw[IntKind.wrap_u64];omega
           have HD2:=AA hd2;clear hd2;cases d2 with
           |false=>
            simp only[if_false,Bool.false_eq_true]at hBE;go_wp2_with (go_at_call 17;refine(hE2.out _ hDI).mono ?_;rintro en w11 ⟨rfl,yO⟩;replace yO:=yO.symm;subst yO)
            go_roundw
            case rel=>exact⟨j+1,G3,by go_num,by omega,hBW,hD0,HS3.out.1,HS3.out.2.1.later (by omega),HS3.out.2.2.1,HS3.out.2.2.2.1,HS3.out.2.2.2.2.pass (fun h=>by
             have:=(F3 HS3.out.2.1 hn7).2 h;rw[<-HF3.out,HD2.out]at this;cases this)⟩
            case measure=>simp[intOf];omega
           |true=>
            simp only[if_true]at hBE;have HDo:Hid (Calls prog 22 #[At g,.agg #[.int .i64 1,.int .i64 (j:Int),.int .i64 0,.int .i64 0,.int .i64 0,.int .i64 0,.int .i64 0,.int .i64 0,.int .i64 0,.int .u8 0,.int .u8 0,.int .u8 0,.int .u8 0,.int .u8 0,.int .u8 0,.int .u8 0,.int .u8 0,.int .u8 0,.int .u8 0,.int .u8 0,.int .u8 0,.int .u8 0,.int .u8 0,.int .u8 0,.int .u8 0]] wr fun e w'=>e= .returned (.int .i64 0)/\Below Bs wr w'/\∃G',Ax Bs w' g G'/\PlI n C.T C.L C.seed (60+16*r+1+(j+1)) G'/\G'.hon=G.hon/\G'.ps.length=i/\StM r (j+1) G'):=by
             obtain⟨hG3,hI3,hh3,hl3,hS3⟩:=HS3.out;refine(PQ (Stp.mk 1 (j:Int) 0 ⟨0,0,0,0,0,0,Nm.zero,Nm.zero⟩) j (.inl ⟨rfl,rfl,by rw[hl3];exact hj⟩) hG3 hD0 hI3 (by omega)).mono ?_;rintro e w' ⟨a1,a2,G4,G',a3,a4,a5,a6,a7,_⟩;obtain⟨a7,a8⟩:=a7 rfl;have hHn:Hn G3.hm j:=(F3 hI3 hn7).1 (by rw[<-HF3.out];exact HD2.out);obtain⟨s1,s2,s3,s4⟩:=hS3.act hI3 hn7 hHn a7 a8 a4 a6;refine⟨a1,a2,G',a3,a5,by rw[s4];exact hh3,?_,s1⟩;rw[a6.keep.1,a7.len];exact hl3
            clear HS3;go_wp2_with (first
             |(go_at_call 17;refine(hE2.out _ hDI).mono ?_;rintro en w11 ⟨rfl,yO⟩;replace yO:=yO.symm;subst yO)
             |(go_at_call 22;refine HDo.out.mono ?_;rintro en w12 ⟨rfl,xU,G4,hG4,hI4,hh4,hl4,hS4⟩)
             |fail)
            go_roundw
            case rel=>exact⟨j+1,G4,by go_num,by omega,hBW.trans xU,AG hD0 xU.size,hG4,hI4,hh4,hl4,hS4⟩
            case measure=>simp[intOf];omega
          ·have dj:=Wv (show i<=j by omega)
           go_wp2_with (go_at_call 17;refine(hE2.out _ hDI).mono ?_;rintro en w11 ⟨rfl,yO⟩;replace yO:=yO.symm;subst yO)
           go_roundw
           case rel=>
            obtain⟨hG3,hI3,hh3,hl3,hS3⟩:=HS3.out;refine⟨r+1,G3,by go_num,hS3.over (fun k hk=>?_),hBW,hD0,hG3,hI3.later (by omega),hh3,hl3,fun h0=>by omega⟩;obtain⟨_,b,P,_,h1,_⟩:=hI3.proc hn7 hk;have:=(AF.1 h1).1;omega
           case measure=>simp[intOf];omega
        |true=>
         have zR:3*((n:Int)-(Ae (xOf G1.hon) 10:Nat))<n:=by rw[HHn.out];exact HLt.out
         obtain⟨E,hEn,hE⟩:=HI1.out.one hn7 zR (HD0.out.1 rfl);have HE:Hid (∀j,j<i->f j=true->∀V,Wx w8 V->Calls prog 18 #[At g,.int .i64 (j:Int)] V fun e w'=>∃(A:Option Addr) (c:Nat),e= .returned (.tuple #[.slice A n c,.bool true])/\Wx V w'/\Rd w' w'.heap.size A (E.flatMap chc)):=fun j hj hfj V hV=>by
          obtain⟨b,P,h1,h2,h3⟩:=hE j ((F3 HI1.out hn7).1 (by rw[<-HF1.out];exact hfj));refine(FU (HG8.out.below hV) h1 (by have:=(HI1.out.dec j b P h1).1;omega)).mono ?_;rintro e w' ⟨v,rfl,a2,a3,_⟩;obtain⟨A,c,rfl,hS⟩:=Bg (a3 h2);rw[h3]at hS;exact⟨A,c,by rw[h2,h3,hEn],a2,hS⟩
         have HEn:=AA hEn;have hn1:1<=n:=HI1.out.inv.n1.1;clear HR0 HD0 HSt HI1 HG8 hE hEn hHK;go_wp2_with (go_at_call 17;refine(hDH.out _ hE1).mono ?_;rintro en w9 ⟨rfl,hw9⟩;replace hw9:=hw9.symm;subst hw9)
         go_loopw [17,18] (fun fv iv wr=>∃j:Nat,iv= .int .i64 (j:Int)/\j<=i/\Wx w8 wr/\(fv= .slice none 0 0∨∃(A:Option Addr) (c:Nat),fv= .slice A n c/\Rd wr wr.heap.size A (E.flatMap chc))) (fun _ iv _=>i-(intOf iv).toNat)
         case atStart=>exact⟨0,rfl,Nat.zero_le _,hE1,.inl rfl⟩
         case round=>
          obtain⟨j,rfl,hji,hb9,hfv⟩:=hrel;have HFv:=AA hfv;clear hfv;by_cases hj:j<i
          ·have dj:=Wu (show j<i by omega)
           obtain⟨d2,hd2⟩:=Ws (f j);have hBE:bits .and .i64 ((mk:Int)/2^j) 1=if d2 then 1 else 0:=by rw[<-hd2,HMk.out];exact KC f i j hj
           have hwp:IntKind.u64.wrap (j:Int)=(j:Int):=by rw[IntKind.wrap_u64];omega
           have HD2:=AA hd2;clear hd2;cases d2 with
           |false=>
            simp only[if_false,Bool.false_eq_true]at hBE;go_wp2_with (go_at_call 17;refine(hDH.out _ hb9).mono ?_;rintro en w11 ⟨rfl,yO⟩;replace yO:=yO.symm;subst yO)
            go_roundw
            case rel=>exact⟨j+1,by go_num,by omega,hb9,HFv.out⟩
            case measure=>simp[intOf];omega
           |true=>
            simp only[if_true]at hBE;have HDc:=AA (HE.out j hj HD2.out wr hb9);go_upto_region 45 with(first
             |(go_at_call 17;refine(hDH.out _ hb9).mono ?_;rintro en w11 ⟨rfl,yO⟩;replace yO:=yO.symm;subst yO)
             |(go_at_call 18;refine HDc.out.mono ?_;rintro en w12 ⟨A12,c12,rfl,xU,hHO⟩)
             |fail)
            have hCF:Wx w8 w12:=hb9.trans (xU.mono hb9.size);have x6:=HX.out w12 (hb7B.trans (hCF.mono hB8));have hE3:=AA hHO;clear hHO HDc;rcases HFv.out with rfl|⟨A9,c9,rfl,hR9⟩
            ·clear HFv;go_wp2_with fail
             go_roundw
             case rel=>exact⟨j+1,by go_num,by omega,hCF,.inr ⟨A12,c12,rfl,hE3.out⟩⟩
             case measure=>simp[intOf];omega
            ·have HCh:=AA (Lv A12 A9 c12 c9 n E w12 HEn.out hE3.out ((hR9.below xU).more xU.size) (by omega));have dn:=Wu (show 0<n by omega)
             clear HFv hR9;go_wp2_with (first
              |(go_at_call 21;refine HCh.out.mono ?_;rintro en w13 ⟨rfl,xj⟩)
              |fail)
             go_roundw
             case rel=>exact⟨j+1,by go_num,by omega,hCF.trans (xj.mono hCF.size),.inr ⟨A12,c12,rfl,(hE3.out.below xj).more xj.size⟩⟩
             case measure=>simp[intOf];omega
          ·have dj:=Wv (show i<=j by omega)
           go_wp2_with (first
            |(go_at_call 17;refine(hDH.out _ hb9).mono ?_;rintro en w11 ⟨rfl,yO⟩;replace yO:=yO.symm;subst yO)
            |(go_at_call 13;refine(HAw.out _).mono ?_;rintro en w12 ⟨rfl,xU⟩)
            |fail)
           go_ret;exact⟨rfl,((yW.trans (hb7B.mono hwB)).trans (hb9.mono (AG hwB hB8))).trans (xU.mono (AG hwB (AG hB8 hb9.size)))⟩
end
section
open Go.ChangeShapes Go.WideShapes Go.ChangeAt Go.RowKit Go.Deep
theorem VU:prog.cellsOf 5=1:=by kernel_rfl
theorem OA:prog.cellsOf 3=1:=by kernel_rfl
theorem PX:prog.cellsOf 22=1:=by kernel_rfl
theorem Lx:prog.cellsOf 24=8:=by kernel_rfl
theorem PY:prog.cellsOf 46=22:=by kernel_rfl
section
variable {H:Type}{enc:TypeId×Value->H}{w:World}{base:Nat}{spare:Nat->Bool}{held:Bool}
theorem UE{n:Int}(h:(Lit.int .u8 n).wf=true):.int .u8 n=B (UInt8.ofNat n.toNat):=by
 have hx:0<=n/\n<=255:=by simpa[Lit.wf,IntKind.min,IntKind.max,IntKind.signed,IntKind.bits]using h
 rw[Value.int.injEq];refine⟨rfl,?_⟩;simp;omega
theorem VV{n:Int}(h:(Lit.int .i64 n).wf=true): -9223372036854775808<=n/\n<=9223372036854775807:=by
 simpa[Lit.wf,IntKind.min,IntKind.max,IntKind.signed,IntKind.bits]using h
theorem Qc{fuel:Nat}{cs:List Value}{x:DataW H×List MemPlace}(h:DataW.trod enc prog w base spare held fuel 5 cs=some x):∃b:UInt8,cs=[B b]:=by
 obtain⟨n,rfl,_,hw⟩:=DataW.trod_int underlying5 h;exact⟨_,by rw[UE hw]⟩
theorem Ii{fuel:Nat}{cs:List Value}{x:DataW H×List MemPlace}(h:DataW.trod enc prog w base spare held fuel 24 cs=some x):∃n:Nm,cs=[B n.b0,B n.b1,B n.b2,B n.b3,B n.b4,B n.b5,B n.b6,B n.b7]:=by
 obtain⟨xs,m,_,_,xQ,hx,hf⟩:=DataW.trod_array underlying24 h;rw[Lx]at xQ;rw[VU]at hf
 match cs,xQ with
 |[c0,c1,c2,c3,c4,c5,c6,c7],_=>
  have key:∀i,i<8->∃b:UInt8,(([c0,c1,c2,c3,c4,c5,c6,c7]:List Value).drop (i*1)).take 1=[B b]:=fun i hi=>by
   have:=hf i hi;rw[AE (by omega)]at this;exact Qc this
  obtain⟨b0,h0⟩:=key 0 (by omega);obtain⟨b1,h1⟩:=key 1 (by omega);obtain⟨b2,h2⟩:=key 2 (by omega);obtain⟨b3,h3⟩:=key 3 (by omega);obtain⟨b4,h4⟩:=key 4 (by omega);obtain⟨b5,h5⟩:=key 5 (by omega);obtain⟨b6,h6⟩:=key 6 (by omega);obtain⟨b7,h7⟩:=key 7 (by omega);simp at h0 h1 h2 h3 h4 h5 h6 h7;exact⟨⟨b0,b1,b2,b3,b4,b5,b6,b7⟩,by simp[h0,h1,h2,h3,h4,h5,h6,h7]⟩
theorem Qd{fuel:Nat}{cs:List Value}{x:DataW H×List MemPlace}(h:DataW.trod enc prog w base spare held fuel 46 cs=some x):∃v:Vt,cs=v.cells.toList/\v.ok:=by
 obtain⟨xs,m,_,_,xQ,hx,hf⟩:=DataW.trod_struct underlying46 h;rw[PY]at xQ
 match cs,xQ with
 |[c0,c1,c2,c3,c4,c5,c6,c7,c8,c9,c10,c11,c12,c13,c14,c15,c16,c17,c18,c19,c20,c21],_=>
  have key:=fun i f (hi:_)=>(hf i f hi).trans (AE (show i<xs.length by rw[hx];exact(Aa.1 hi).1))
  obtain⟨k0,h0,_,_⟩:=DataW.trod_int underlying3 (key 0 _ rfl);obtain⟨k1,h1,_,_⟩:=DataW.trod_int underlying3 (key 1 _ rfl);obtain⟨k2,h2,_,_⟩:=DataW.trod_int underlying3 (key 2 _ rfl);obtain⟨k3,h3,_,_⟩:=DataW.trod_int underlying3 (key 3 _ rfl);obtain⟨k4,h4,_,_⟩:=DataW.trod_int underlying3 (key 4 _ rfl);obtain⟨k5,h5,_,w5⟩:=DataW.trod_int underlying22 (key 5 _ rfl);obtain⟨n6,h6⟩:=Ii (key 6 _ rfl);obtain⟨n7,h7⟩:=Ii (key 7 _ rfl);simp[OA,PX,Lx]at h0 h1 h2 h3 h4 h5 h6 h7;refine⟨⟨k0,k1,k2,k3,k4,k5,n6,n7⟩,?_,VV w5⟩;simp[h0,h1,h2,h3,h4,h5,h6,h7]
theorem JB{ts:List TypeId}{ds:List (DataW H)}(hw:∀k∈DataW.weightsEach prog ts ds,k<=reachBytes){j:Nat}{t:TypeId}{d:DataW H}(ht:ts[j]? =some t)(hd:ds[j]? =some d):∀k∈d.weights prog t,k<=reachBytes:=
 fun k hk=>hw k (DataW.weights_mem_each ht hd k hk)
theorem F4{e:TypeId}:∀{ds:List (DataW H)} {d:DataW H},d∈ds->∀k∈d.weights prog e,k∈DataW.weightsAll prog e ds
 |d0::r,d,hd,k,hk=>by
  rw[DataW.weightsAll,AP];rcases List.mem_cons.1 hd with rfl|h
  ·exact .inl hk
  ·exact .inr (F4 h k hk)
theorem Qe{α:Type}(f:α->List Value)(m:Nat)(ok:α->Prop){t e:TypeId}(ht:prog.underlying t=some (.slice e))(hm:prog.cellsOf e=m)(xp:0<m)(hHP:∀(n:Nat) (cs:List Value) (x:DataW H×List MemPlace),DataW.trod enc prog w base spare held n e cs=some x->(∀k∈x.1.weights prog e,k<=reachBytes)->∃a,cs=f a/\ok a)(hf:∀a,(f a).length=m){fuel:Nat}{cs:List Value}{x:DataW H×List MemPlace}(h:DataW.trod enc prog w base spare held fuel t cs=some x)(hw:∀k∈x.1.weights prog t,k<=reachBytes):∃(A:Option Addr) (l:List α) (cap:Nat),cs=[.slice A l.length cap]/\Rd w w.heap.size A (l.flatMap f)/\(∀a∈l,ok a)/\l.length<=cap/\cap<=maxLen/\l.length*prog.bytesOf e<=reachBytes:=by
 rcases open_slice ht h with⟨rfl,_⟩|⟨a,len,cap,mm,n,D,Pl,rfl,_,hl,hmx,hmm,rfl,hi⟩
 ·exact⟨none,[],0,rfl,.inl rfl,by simp,AB _,Nat.zero_le _,by simp⟩
 ·have hle:len<=mm:=by rw[hmm];split <;> omega
  simp only[DataW.weights,ht]at hw;have hel:∀i,i<len->∃b:α,w.cells? base (a.add (i*m)) m=some (f b)/\ok b:=by
   intro i hi0;obtain⟨cs',hc,htr⟩:=hi i (by omega);rw[hm]at hc;obtain⟨b,rfl,hok⟩:=hHP n cs' _ htr (fun k hk=>hw k (by
    rw[List.mem_cons,AP];refine .inr (.inl (F4 (d:=D i) ?_ k hk));exact List.mem_map.2 ⟨i,List.mem_range.2 hi0,rfl⟩))
   exact⟨b,hc,hok⟩
  obtain⟨l,hll,hlp⟩:∃l:List α,l.length=len/\∀i b,l[i]? =some b->w.cells? base (a.add (i*m)) m=some (f b)/\ok b:=by
   clear hi hmm hw h hle hl
   induction len with
   |zero=>exact⟨[],rfl,by simp⟩
   |succ k ih=>
    obtain⟨l,h1,h2⟩:=ih (fun i hi0=>hel i (by omega));obtain⟨b,hb⟩:=hel k (by omega);refine⟨l++[b],by simp[h1],fun i c hc=>?_⟩;rcases Nat.lt_or_ge i k with hik|hik
    ·rw[List.getElem?_append_left (by omega)]at hc;exact h2 i c hc
    ·rw[List.getElem?_append_right (by omega),h1]at hc;have:i-k=0:=by
      rcases Nat.eq_zero_or_pos (i-k)with h0|h0
      ·exact h0
      ·rw[List.getElem?_eq_none (by simp;omega)]at hc;cases hc
     obtain rfl:i=k:=by omega
     rw[this]at hc;simp at hc;subst hc;exact hb
  refine⟨some a,l,cap,by rw[hll],?_,fun b hb=>?_,by omega,hmx,?_⟩
  ·by_cases h0:len=0
   ·exact .inl (by rw[AQ (hll.trans h0)];rfl)
   ·obtain⟨b0,hb0⟩:∃b0,l[0]? =some b0:=⟨_,AE (by omega)⟩;obtain⟨_,hcl,hat⟩:=World.cells?_some (hlp 0 b0 hb0).1;have hc0:=hat 0 xp;rw[AE (by rw[hf];exact xp)]at hc0;obtain⟨bb,off,spot⟩:=a;have hHQ:spot=none:=by simpa[Addr.add]using World.cell?_spot hc0
    subst hHQ;refine .inr ⟨bb,off,rfl,?_,fun j u hu=>?_⟩
    ·exact block_lt_of_cell (by simpa[Addr.add]using hc0)
    ·have hjl:j<l.length*m:=by
      have:=(AF.1 hu).1;rwa[AY f m l (fun x _=>hf x)]at this
     have hdm:=Nat.div_add_mod j m;have hHR:j%m<m:=Nat.mod_lt _ xp;have hdiv:j/m<l.length:=(Nat.div_lt_iff_lt_mul xp).2 hjl;have hb:l[j/m]? =some l[j/m]:=AE hdiv;obtain⟨_,_,hat'⟩:=World.cells?_some (hlp _ _ hb).1;have hc:=hat' (j%m) hHR;rw[<-CN f m l (fun x _=>hf x) (j/m) (j%m) _ hb hHR,show j/m*m+j%m=j from by rw[Nat.mul_comm];exact hdm,hu]at hc;rw[Addr.add_mid,Addr.add_mid,show off+j/m*m+j%m=off+j from by rw[Nat.add_assoc,Nat.mul_comm (j/m) m,hdm]]at hc;exact hc
  ·obtain⟨i,hi0⟩:=List.getElem?_of_mem hb;exact(hlp i b hi0).2
  ·have:=hw ((((List.range len).map D).length+((List.range (mm-len)).map fun j=>D (len+j)).length)*prog.bytesOf e) (Am ..);simp only[Ab,List.length_range]at this;refine AG (Nat.mul_le_mul_right _ ?_) this;omega
end
end
section
open Go.ChangeShapes Go.WideShapes Go.ChangeAt Go.RowKit
variable {H:Type}{enc:TypeId×Value->H}{w:World}{base:Nat}{spare:TypeId->Bool}{held:Bool}
theorem PZ:prog.cellsOf 48=25:=by kernel_rfl
theorem VW{cs xs:Array Value}{v:Value}(h:v= .agg cs)(hv:v.cells.toList=xs.toList):v= .agg xs:=by
 subst h;have:cs=xs:=by
  apply Array.toList_inj.1;simpa[Value.cells]using hv
 rw[this]
variable {H:Type}{enc:TypeId×Value->H}{w:World}{base:Nat}{spare:TypeId->Bool}{held:Bool}
theorem UF:prog.cellsOf 26=11:=by kernel_rfl
theorem OB{fuel:Nat}{cs:List Value}{x:DataW H×List MemPlace}(h:DataW.trod enc prog w base spare held fuel 48 cs=some x):∃s:Stp,cs=stc s/\s.vote.ok:=by
 obtain⟨xs,m,_,_,xQ,hx,hf⟩:=DataW.trod_struct underlying48 h;rw[PZ]at xQ
 match cs,xQ with
 |[c0,c1,c2,c3,c4,c5,c6,c7,c8,c9,c10,c11,c12,c13,c14,c15,c16,c17,c18,c19,c20,c21,c22,c23,c24],_=>
  have key:=fun i f (hi:_)=>(hf i f hi).trans (AE (show i<xs.length by rw[hx];exact(Aa.1 hi).1))
  obtain⟨k0,h0,_,_⟩:=DataW.trod_int underlying3 (key 0 _ rfl);obtain⟨k1,h1,_,_⟩:=DataW.trod_int underlying3 (key 1 _ rfl);obtain⟨k2,h2,_,_⟩:=DataW.trod_int underlying3 (key 2 _ rfl);obtain⟨v,h3,hv⟩:=Qd (key 3 _ rfl);simp[OA,PY]at h0 h1 h2 h3;refine⟨⟨k0,k1,k2,v⟩,?_,hv⟩;simp[h0,h1,h2,h3]
theorem SW{fuel:Nat}{cs:List Value}{x:DataW H×List MemPlace}(h:DataW.trod enc prog w base spare held fuel 26 cs=some x):∃s:Cfg,cs=s.cells.toList:=by
 obtain⟨xs,m,_,_,xQ,hx,hf⟩:=DataW.trod_struct underlying26 h;rw[UF]at xQ
 match cs,xQ with
 |[c0,c1,c2,c3,c4,c5,c6,c7,c8,c9,c10],_=>
  have key:=fun i f (hi:_)=>(hf i f hi).trans (AE (show i<xs.length by rw[hx];exact(Aa.1 hi).1))
  obtain⟨k0,h0,_,_⟩:=DataW.trod_int underlying3 (key 0 _ rfl);obtain⟨k1,h1,_,_⟩:=DataW.trod_int underlying22 (key 1 _ rfl);obtain⟨k2,h2,_,_⟩:=DataW.trod_int underlying22 (key 2 _ rfl);obtain⟨s,h3⟩:=Ii (key 3 _ rfl);simp[OA,PX,Lx]at h0 h1 h2 h3;refine⟨⟨k0,k1,k2,s⟩,?_⟩;simp[h0,h1,h2,h3]
end
end Go.Proofs.YtadllffeoibelaaGreat
