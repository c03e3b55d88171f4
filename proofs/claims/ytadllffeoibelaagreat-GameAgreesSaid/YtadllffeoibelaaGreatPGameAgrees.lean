/-
 For every configuration and all steps, if fewer than a third of the members are twins or liars, all honest processes that decide decide one block: the law GameAgrees returns true. No condition.
-/
import Derived.Test.YtadllffeoibelaaGreatS1
import Derived.Test.YtadllffeoibelaaGreatS48
import Derived.Test.YtadllffeoibelaaGreatS11
import Derived.Test.YtadllffeoibelaaGreatS40
import Derived.Test.YtadllffeoibelaaGreatS49
import Derived.Test.YtadllffeoibelaaGreatS6
import Derived.Test.YtadllffeoibelaaGreatS50
import Derived.Test.YtadllffeoibelaaGreatS51
import Derived.ShutString
import Derived.ChangeOld
namespace Go.Proofs.YtadllffeoibelaaGreat
set_option maxRecDepth 100000
set_option maxHeartbeats 32000000
set_option linter.all false
namespace gameAgrees
theorem j1:(Rows.gameAgreesRow.wf (OpenSpec.ofChange Rows.gameAgreesSpec))=true:=by kernel_rfl
theorem j2:(laidOutB Tryz.prog)=true:=PI
theorem j3:(mapsRowed Tryz.prog)=true:=PJ
theorem j4:(Tryz.f3.params.all (Tryz.prog.readableRec ·))=true:=by kernel_rfl
theorem j5:(namedTie Tryz.prog Rows.gameAgreesRow.named Rows.gameAgreesSpec.vars)=true:=by kernel_rfl
theorem j6:((Rows.gameAgreesRow.stops==[]))=true:=by kernel_rfl
theorem j7:((Tryz.prog.stops==[]))=true:=by kernel_rfl
theorem j8:((Rows.gameAgreesRow.knobs==[]))=true:=by kernel_rfl
theorem j9:((Tryz.prog.stopKnobs==[]))=true:=by kernel_rfl
theorem j10:((Rows.gameAgreesRow.inPlace==Tryz.prog.inPlace 3))=true:=by kernel_rfl
theorem j11:((Rows.gameAgreesRow.unfollowed==Tryz.prog.unfollowed 3))=true:=by kernel_rfl
theorem j12:((Rows.gameAgreesRow.recurses==Tryz.prog.recurses 3))=true:=by kernel_rfl
theorem j13:((Rows.gameAgreesRow.named==Tryz.prog.varsNamed 3))=true:=by kernel_rfl
theorem j14:((Rows.gameAgreesRow.maps==(Tryz.f3.params.toList++Rows.gameAgreesSpec.plain.varTypes Tryz.prog).any (Tryz.prog.mapsRec ·)))=true:=by kernel_rfl
theorem j15:((Rows.gameAgreesRow.ifaces==(Tryz.f3.params.toList++Rows.gameAgreesSpec.plain.varTypes Tryz.prog).any (Tryz.prog.ifacesRec ·)))=true:=by kernel_rfl
theorem j16:((Rows.gameAgreesRow.mapsOut==Tryz.prog.mapsAmong Tryz.f3.resultTypes.toList))=true:=by kernel_rfl
theorem j17:((Rows.gameAgreesRow.loops==(Tryz.f3.params.toList++Rows.gameAgreesSpec.plain.varTypes Tryz.prog).any (Tryz.prog.loopsFrom ·)))=true:=by kernel_rfl
theorem j18:((Rows.gameAgreesRow.wideKeys==(Tryz.f3.params.toList++Rows.gameAgreesSpec.plain.varTypes Tryz.prog++Tryz.f3.resultTypes.toList).any (Tryz.prog.wideKeysFrom ·)))=true:=by kernel_rfl
theorem j19:(Rows.gameAgreesSpec.vars.all (Tryz.prog.varReadable ·))=true:=by kernel_rfl
theorem j20:(Tryz.f3.resultTypes.all (fun t=>Tryz.prog.readableRec t&&decide (t<Tryz.prog.types.size)))=true:=by kernel_rfl
theorem j21:((Rows.gameAgreesRow.ifacesOut==Tryz.f3.resultTypes.toList.any (Tryz.prog.ifacesRec ·)))=true:=by kernel_rfl
theorem j22:((Rows.gameAgreesRow.loopsOut==Tryz.f3.resultTypes.toList.any (Tryz.prog.loopsFrom ·)))=true:=by kernel_rfl
theorem j23:((Rows.gameAgreesRow.plainKeys==Tryz.prog.plainKeys))=true:=by kernel_rfl
theorem j24:(Rows.gameAgreesRow.shortTexts.isNone)=true:=by kernel_rfl
theorem j25:(Tryz.prog.stopsHeard)=true:=ML
theorem j26:(Tryz.prog.mayEnter)=true:=MI
theorem j27:((Rows.gameAgreesRow.lifted==Tryz.prog.liftsFinal))=true:=MJ
theorem j28:((Tryz.prog.make==some Rows.gameAgreesRow.make))=true:=MK
theorem j29:((Rows.gameAgreesRow.kinds==(if Rows.gameAgreesRow.domain.isEmpty then[]else Tryz.f3.params.toList.map fun t=>match Tryz.prog.underlying t with |some (.int k)=>some k|_=>none)))=true:=by kernel_rfl
theorem j30:((Rows.gameAgreesRow.pinned==Rows.gameAgreesRow.pinnedBy))=true:=by kernel_rfl
theorem j31:((Rows.gameAgreesRow.veiled==(Tryz.f3.params.toList++Rows.gameAgreesSpec.plain.varTypes Tryz.prog++Tryz.f3.resultTypes.toList).any (Tryz.prog.veiledRec ·)))=true:=by kernel_rfl
theorem j32:(Rows.gameAgreesRow.veiledFits Tryz.prog Tryz.f3.params.toList (Tryz.f3.params.toList++Rows.gameAgreesSpec.plain.varTypes Tryz.prog++Tryz.f3.resultTypes.toList))=true:=by kernel_rfl
theorem closed:joinedFacts Tryz.prog 3 Tryz.f3 Rows.gameAgreesSpec Rows.gameAgreesRow=true:=by
 unfold joinedFacts;exact Ax (Ax (Ax (Ax (Ax (Ax (Ax (Ax (Ax (Ax (Ax (Ax (Ax (Ax (Ax (Ax (Ax (Ax (Ax (Ax (Ax (Ax (Ax (Ax (Ax (Ax (Ax (Ax (Ax (Ax (Ax (j1) j2) j3) j4) j5) j6) j7) j8) j9) j10) j11) j12) j13) j14) j15) j16) j17) j18) j19) j20) j21) j22) j23) j24) j25) j26) j27) j28) j29) j30) j31) j32
end gameAgrees
section

section
variable {n T:Nat}{T0 L0:Int}{s:Nm}{G:GmS}
theorem PlI.popM(h:PlI n T0 L0 s T G)(hn:n≤7):At (xOf G.M) 10=n:=by
 rw[h.M];rcases(by omega:n=0∨n=1∨n=2∨n=3∨n=4∨n=5∨n=6∨n=7)with rfl|rfl|rfl|rfl|rfl|rfl|rfl|rfl <;> decide
theorem PlI.hon_in(h:PlI n T0 L0 s T G){i:Nat}(hi:i<10)(hb:G.hb i=true):(xOf G.M).testBit i=true:=by
 have hb:(xOf G.hon).testBit i=true:=hb;rw[h.hon,JM _ _ i hi,Bool.and_eq_true]at hb;exact hb.1
theorem PlI.no_conf(h:PlI n T0 L0 s T G){i j k b b':Nat}{P Q:PrS}{u v:Vt}(hi:G.ps[i]? =some (b,P))(hj:G.ps[j]? =some (b',Q))(hu:u∈P.D)(hv:v∈Q.D)(hs:u.signer=(k:Int))(hb:G.hb k=true):¬IE u v:=fun hc=>by
 obtain⟨x,hx,rfl⟩:=PrS.mem_D.1 hu;obtain⟨y,hy,rfl⟩:=PrS.mem_D.1 hv;obtain⟨_,m,a,_,_,m1,m2,m3,_⟩:=h.inv.held i b P hi x hx;obtain⟨_,m',a',_,_,n1,n2,n3,_⟩:=h.inv.held j b' Q hj y hy;obtain⟨c1,⟨c2,c3,c4,c5,c6⟩,_⟩:=hc;have e1:m=k:=by have:x.vote.signer=(m:Int):=m1;omega
 have e2:m'=k:=by have:y.vote.signer=(m':Int):=n1;omega
 subst e1;subst e2;rw[m2]at n2;injection n2 with n2
 subst n2;exact c1 (h.inv.uniq m' a hb m2 _ m3 _ n3 ⟨c2,c4,c5,c6,c3⟩)
theorem PlI.third(h:PlI n T0 L0 s T G){i j b b':Nat}{P Q:PrS}(hi:G.ps[i]? =some (b,P))(hj:G.ps[j]? =some (b',Q))(hP:P.dd=true)(hQ:Q.dd=true)(hne:P.dec≠Q.dec):0<At (xOf G.M) 10∧∃l1 l2:List Vt,(∀v∈l1,v∈P.D)∧(∀v∈l2,v∈Q.D)∧Hu (xOf G.M) (l1++l2):=by
 obtain⟨l1,L1,a1,d1,e1⟩:=(h.dec i b P hi).2 hP;obtain⟨l2,L2,a2,d2,e2⟩:=(h.dec j b' Q hj).2 hQ;have d1:Nv G.M G.par l1 10 L1:=by
  rcases d1 with⟨_,d,_⟩|⟨d,_⟩
  ·exact d
  ·cases d
 have d2:Nv G.M G.par l2 10 L2:=by
  rcases d2 with⟨_,d,_⟩|⟨d,_⟩
  ·exact d
  ·cases d
 have hs:L1.map (·.slot)=L2.map (·.slot):=d1.1.trans d2.1.symm;have hl:L1.length=L2.length:=by
  have:=congrArg List.length hs;rwa[AY,AY]at this
 obtain⟨k,x,y,hx,hy,hxy⟩:∃(k:Nat) (x y:Oc),L1[k]? =some x∧L2[k]? =some y∧Eo x≠Eo y:=by
  refine Classical.byContradiction fun hno=>hne ?_
  rw[e1,e2];apply List.ext_getElem?;intro k;rw[AU,AU];rcases hx:L1[k]? with _|x
  ·rw[List.getElem?_eq_none (by have:=List.getElem?_eq_none_iff.1 hx;omega)]
  ·obtain⟨y,hy⟩:∃y,L2[k]? =some y:=⟨_,AE (by have:=(AG.1 hx).1;omega)⟩;rw[hy];show some (Eo x)=some (Eo y);exact congrArg some (Classical.byContradiction fun hc=>hno ⟨k,x,y,hx,hy,hc⟩)
 have hsl:x.slot=y.slot:=by
  have:=congrArg (fun l=>l[k]?) hs;simp only[AU,hx,hy,Option.map_some,Option.some.injEq]at this;exact this
 have hv:x.value≠y.value:=fun e=>hxy (by unfold Eo;rw[hsl,e])
 have hpos:0<At (xOf G.M) 10:=by
  have h1:=congrArg (fun l=>l[k]?) d1.1;simp only[AU,hx,Option.map_some]at h1;obtain⟨m,hm,_⟩:=Option.map_eq_some_iff.1 h1.symm;obtain⟨h2,h3⟩:=GM.1 (AM hm);refine Nat.pos_of_ne_zero fun h0=>?_
  have:=Dl (a:=2^m) (b:=xOf G.M) (fun i _ hb=>by
   rw[Nat.testBit_two_pow]at hb;have:m=i:=of_decide_eq_true hb;rw[←this];exact h3) 10 (AB _)
  rw[h0]at this;rcases(by omega:m=0∨m=1∨m=2∨m=3∨m=4∨m=5∨m=6∨m=7∨m=8∨m=9)with rfl|rfl|rfl|rfl|rfl|rfl|rfl|rfl|rfl|rfl <;> exact absurd this (by decide)
 obtain⟨_,O1,o1,q1,_⟩:=d1.2 x (AM hx);obtain⟨_,O2,o2,q2,_⟩:=d2.2 y (AM hy);rw[←hsl]at o2;exact⟨hpos,l1,l2,a1,a2,KO (N1 o1 hpos) (N1 o2 hpos) hpos (q1 x BB).2 (q2 y BB).2 hv⟩
theorem PlI.agree(h:PlI n T0 L0 s T G)(hn:n≤7){i j b b':Nat}{P Q:PrS}(hi:G.ps[i]? =some (b,P))(hj:G.ps[j]? =some (b',Q))(hP:P.dd=true)(hQ:Q.dd=true)(hfew:3*((n:Int)-(At (xOf G.hon) 10:Nat))<n):P.dec=Q.dec:=by
 refine Classical.byContradiction fun hne=>?_
 obtain⟨hpos,l1,l2,a1,a2,t,ht,hle,hall⟩:=h.third hi hj hP hQ hne;have hoff:∀k,k<10→t.testBit k=true→(xOf G.hon).testBit k=false:=fun k hk hb=>by
  rcases hh:(xOf G.hon).testBit k with _|_
  ·rfl
  ·exfalso;obtain⟨u,hu,v,hv,hs,hc⟩:=hall k hk hb;have pick:∀u∈l1++l2,∃(m c:Nat) (R:PrS),G.ps[m]? =some (c,R)∧u∈R.D:=fun u hu=>by
    rcases AP.1 hu with hu|hu
    ·exact⟨i,b,P,hi,a1 u hu⟩
    ·exact⟨j,b',Q,hj,a2 u hu⟩
   obtain⟨_,_,_,h1,h2⟩:=pick u hu;obtain⟨_,_,_,h3,h4⟩:=pick v hv;exact h.no_conf h1 h3 h2 h4 hs hh hc
 have e1:=Ij t (xOf G.hon) 10;have e2:At (t&&& xOf G.hon) 10=0:=by
  refine Nat.eq_zero_of_not_pos fun hp=>?_
  obtain⟨k,hk,hb⟩:=GK 10 hp;rw[Nat.testBit_and,Bool.and_eq_true]at hb;rw[hoff k hk hb.1]at hb;cases hb.2
 have e3:At (t|||xOf G.hon) 10≤At (xOf G.M) 10:=Dl (fun k hk hb=>by
  rw[Nat.testBit_or,Bool.or_eq_true]at hb;rcases hb with hb|hb
  ·exact ht k hk hb
  ·exact h.hon_in hk hb) 10 (AB _)
 rw[h.popM hn]at e3 hle hpos;unfold RH at hle;rw[if_neg (by omega)]at hle;omega
end
end
section
open Go.RowKit
theorem Sd(p:Value):Instr.loadAt 88 p=CN 88 p:=rfl
theorem Tb(b o:Nat)(w:World):(CN 88 (.pointer (some ⟨b,o,none⟩))).run Tryz.prog w=Cw 88 b o w (AK w b o 9):=CW _ 9 b o w _ Tryz.underlying88 rfl (by kernel_rfl)
theorem Rd.chRow{w:World}{B' b o:Nat}{l:List Ch}{k:Nat}{v:Ch}(h:Rd w B' (some ⟨b,o,none⟩) (l.flatMap chc))(hk:l[k]? =some v):AK w b (o+k*9) 9=some v.cells:=by
 have hpos:=(AG.1 hk).1;rcases h with h|⟨b',o',e,hb,hc⟩
 ·have:=AX chc 9 l (Ge l);rw[h]at this;simp at this;omega
 ·injection e with e
  injection e with e1 e2
  subst e1;subst e2;refine Bo (fun j u hu=>?_) rfl;have hj:j<9:=by
   have:=(AG.1 hu).1;simpa using this
  rw[Nat.add_assoc];refine hc _ u ?_;rw[CG chc 9 l (Ge l) k j v hk hj,←hu]
attribute [local go_sem ↓] Go.wp_at_zero Go.wp_at_succ An Au Av Aw Sd
attribute [local go_sem] BD BH BI BJ Tb AN AW AQ
theorem KK(A A':Option Addr)(c c' n:Nat)(E:List Ch)(w:World)(hE:E.length=n)(hr:Rd w w.heap.size A (E.flatMap chc))(hr':Rd w w.heap.size A' (E.flatMap chc))(hsmall:n≤1000000):Calls Tryz.prog 21 #[.slice A n c,.slice A' n c'] w (Al w true):=by
 have HE:=AA hE;have HR:=AA hr;have HR':=AA hr';clear hE hr hr';go_enter Tryz.func21,Tryz.ntmps21;go_wp2
 go_loopw [5] (fun iv wr=>N5 n w iv wr) (fun iv _=>n-(intOf iv).toNat)
 case atStart=>exact⟨0,rfl,Nat.zero_le _,AC _ _⟩
 case round=>
  obtain⟨i,rfl,hin,hbw⟩:=hrel;by_cases hi:i<n
  ·have di:decide ((i:Int)<(n:Int))=true:=by simp;omega
   have i0:(0:Int)≤(i:Int):=by omega
   have i1:(i:Int)<(n:Int):=by omega
   obtain⟨e,he⟩:∃e,E[i]? =some e:=⟨_,AE (by rw[HE.out];exact hi)⟩;obtain⟨b,o,rfl,_,_⟩:=HR.out.cells (by intro h0;have:=AX chc 9 E (Ge E);rw[h0,HE.out]at this;simp at this;omega);obtain⟨b',o',rfl,_,_⟩:=HR'.out.cells (by intro h0;have:=AX chc 9 E (Ge E);rw[h0,HE.out]at this;simp at this;omega);have hx:AK wr.drew b (o+i*9) 9=some e.cells∧AK wr.drew b' (o'+i*9) 9=some e.cells:=⟨(HR.out.below hbw.drew).chRow he,(HR'.out.below hbw.drew).chRow he⟩;have e1:∀W,(Op.equalIn 10000 88 (.agg e.cells) (.agg e.cells)).run Tryz.prog W= .ok true W:=fun W=>by
    have:=UU e e W;rwa[decide_eq_true rfl]at this
   have hbw':=hbw.drew;have HX:=AA hx;clear he hx;go_upto_region 6 with fail
   refine rgD (fun V=>AK V b (o+i*9) 9=some e.cells∧AK V b' (o'+i*9) 9=some e.cells) (HX.out) fun hHeld=>?_
   refine tkD 17 0 ?_;go_frame;refine tkD 18 1 ?_;go_frame;refine tkD 19 2 ?_;go_frame;refine tkD 20 3 ?_;go_frame;refine tkD 21 4 ?_;go_frame;refine tkD 22 5 ?_;go_frame;refine tkD 23 6 ?_;go_frame;refine tkD 24 7 ?_;go_frame;refine tkD 25 8 ?_;go_frame;refine dnD ?_;go_wp2_with fail
   go_roundw
   case rel=>exact⟨i+1,by go_num,by omega,hbw'⟩
   case measure=>simp[intOf];omega
  ·have di:decide ((i:Int)<(n:Int))=false:=by simp;omega
   go_wp2;go_ret;exact⟨rfl,hbw⟩
end
section
open Go.RowKit
attribute [local go_sem ↓] Go.wp_at_zero Go.wp_at_succ An Au Av Aw IT IU
attribute [local go_sem] BD BH BI BJ Kq Kr AN AW AQ
theorem K0(C:Cfg)(A:Option Addr)(k c:Nat)(l:List Stp)(w:World)(hk:l.length=k)(hr:Rd w w.heap.size A (l.flatMap stc))(hok:∀s∈l,s.vote.ok):Calls Tryz.prog 3 #[C.val,.slice A k c] w fun e w'=>e= .returned (.bool true)∧Below w.heap.size w w':=by
 obtain⟨w1,hw1⟩:∃w1,w1=w.alloc (.cells C.cells 26):=⟨_,rfl⟩;have hb1:Below w.heap.size w w1:=by rw[hw1];exact(AC _ _).alloc (AB _) _
 obtain⟨q,hq⟩:∃q,q=w.heap.size:=⟨_,rfl⟩;have hQ1:Blk w1 q 26 C.cells:=by rw[hw1,hq];exact Blk.new w _ _
 have x1:AK w1 q 0 11=some C.cells:=hQ1.row 11 rfl;obtain⟨d0,hd0⟩:∃d,d=decide (k≤60):=⟨_,rfl⟩;obtain⟨d1,hd1⟩:∃d,d=decide (1≤C.n∧C.n≤7):=⟨_,rfl⟩;have HFew:Hid (∀W,Calls Tryz.prog 11 #[.slice A k c] W fun e w'=>e= .returned (.bool d0)∧w'=W):=fun W=>by rw[hd0];exact Ku A k c W
 have HVal:Hid (∀W,Calls Tryz.prog 12 #[C.val] W fun e w'=>e= .returned (.bool d1)∧Below W.heap.size W w'):=fun W=>by rw[hd1];exact FM C W
 have HAw:=AA FN;have HPlay:Hid (d0=true→d1=true→∀V,Below w.heap.size w V→Calls Tryz.prog 14 #[C.val,.slice A k c] V fun e w'=>∃g G Bs n,e= .returned (Am g)∧Below V.heap.size V w'∧V.heap.size≤Bs∧Bs≤w'.heap.size∧A9 Bs w' g G∧PlI n C.T C.L C.seed 60 G∧C.n=(n:Int)∧n≤7):=fun e0 e1 V hV=>by
  rw[hd0]at e0;rw[hd1]at e1;have e0:=of_decide_eq_true e0;have e1:=of_decide_eq_true e1;obtain⟨n,hn⟩:∃n:Nat,C.n=(n:Int):=⟨C.n.toNat,by omega⟩;have hC:C=Cfg.mk (n:Int) C.T C.L C.seed:=by rw[←hn]
  rw[show C.val=(Cfg.mk (n:Int) C.T C.L C.seed).val by rw[←hC]];exact(JR n (by omega) C.T C.L C.seed A k c l V hk e0 ((hr.below hV).more hV.size) hok).mono fun e w' ⟨g,G,Bs,a1,a2,a3,a4,a5,a6⟩=>⟨g,G,Bs,n,a1,a2,a3,a4,a5,a6,hn,by omega⟩
 have HW1:=AA hw1;have HQ:=AA hq;clear hw1 hq hQ1 hd0 hd1 hr hok hk;go_enter Tryz.func3,Tryz.ntmps3;go_upto_region 1 with fail
 simp only[←HW1.out,←HQ.out];have hsw:=hb1.size;cases d0 with
 |false=>
  clear HPlay HVal;go_wp2_with (first
   |(go_at_call 11;refine(HFew.out _).mono ?_;rintro en w2 ⟨rfl,hw2⟩;replace hw2:=hw2.symm;subst hw2)
   |(go_at_call 13;refine(HAw.out _).mono ?_;rintro en w3 ⟨rfl,hb3⟩)
   |fail)
  go_ret;exact⟨rfl,hb1.trans (hb3.mono hsw)⟩
 |true=>
 cases d1 with
 |false=>
  clear HPlay;go_wp2_with (first
   |(go_at_call 11;refine(HFew.out _).mono ?_;rintro en w2 ⟨rfl,hw2⟩;replace hw2:=hw2.symm;subst hw2)
   |(go_at_call 12;refine(HVal.out _).mono ?_;rintro en w3 ⟨rfl,hb3⟩)
   |(go_at_call 13;refine(HAw.out _).mono ?_;rintro en w4 ⟨rfl,hb4⟩)
   |fail)
  go_ret;exact⟨rfl,(hb1.trans (hb3.mono hsw)).trans (hb4.mono (AF hsw hb3.size))⟩
 |true=>
 go_upto_region 3 with(first
  |(go_at_call 11;refine(HFew.out _).mono ?_;rintro en w2 ⟨rfl,hw2⟩;replace hw2:=hw2.symm;subst hw2)
  |(go_at_call 12;refine(HVal.out _).mono ?_;rintro en w3 ⟨rfl,hb3⟩)
  |fail)
 have hb03:Below w.heap.size w w3:=hb1.trans (hb3.mono hsw);have hq3:q<w3.heap.size:=by
  have h1:q<w1.heap.size:=by rw[HW1.out,HQ.out];simp
  exact Nat.lt_of_lt_of_le h1 hb3.size
 have x3:AK w3 q 0 11=some C.cells:=Ay x1 hb3 (by rw[HW1.out,HQ.out];simp);have HPl:=AA (HPlay.out (by trivial) (by trivial) w3 hb03);clear HPlay HFew HVal x1;go_upto_region 4 with(go_at_call 14;refine HPl.out.mono ?_;rintro en w4 ⟨g,G,Bs,n,rfl,hb4,hB3,hB4,hG4,hI4,hCn,hn7⟩)
 have hb04:Below w.heap.size w w4:=hb03.trans (hb4.mono hb03.size);have hwB:w.heap.size≤Bs:=AF hb03.size hB3;have x4:w4.cell? ⟨q,0,none⟩=some (.int .i64 (n:Int)):=by
  rw[←hCn];have:=Ay x3 hb4 hq3;exact(Cl this).2 0 _ rfl
 obtain⟨h,hh⟩:∃h,h=At (xOf G.hon) 10:=⟨_,rfl⟩;have hh10:h≤10:=by rw[hh];exact D6 _ _
 have HHon:Hid (∀V,Below w4.heap.size w4 V→Calls Tryz.prog 16 #[Am g] V fun e w'=>e= .returned (.int .i64 G.hon)∧w'=V):=fun V hV=>JU (hG4.below hV)
 have HSize:Hid (∀V,Calls Tryz.prog 15 #[.int .i64 G.hon] V fun e w'=>e= .returned (.int .i64 (h:Int))∧w'=V):=fun V=>by rw[hh];exact CU G.hon V
 obtain⟨N,hN⟩:∃N,N=G.ps.length:=⟨_,rfl⟩;have hN20:N≤20:=by have:=hI4.inv.psn;have:=hI4.inv.n1;omega
 have HPr:Hid (∀V,Below w4.heap.size w4 V→Calls Tryz.prog 17 #[Am g] V fun e w'=>e= .returned (.int .i64 (N:Int))∧w'=V):=fun V hV=>by rw[hN];exact CK (hG4.below hV)
 have HP:Hid (∀p,p<N→∃b P,G.ps[p]? =some (b,P)∧P.mem≤9∧P.dec.length≤10):=fun p hp=>by
  obtain⟨⟨b,P⟩,hP⟩:∃x,G.ps[p]? =some x:=⟨_,AE (by rw[←hN];exact hp)⟩;exact⟨b,P,hP,by have:=(hI4.inv.mem p b P hP).1;omega,(hI4.dec p b P hP).1⟩
 have HDc:Hid (∀V (p b:Nat) (P:PrS),Below w4.heap.size w4 V→G.ps[p]? =some (b,P)→Calls Tryz.prog 18 #[Am g,.int .i64 (p:Int)] V (Qk P V)):=fun V p b P hV hp=>Gg (hG4.below hV) hp (by have:=(hI4.dec p b P hp).1;omega)
 have HMm:Hid (∀V (p b:Nat) (P:PrS),Below w4.heap.size w4 V→G.ps[p]? =some (b,P)→Calls Tryz.prog 20 #[Am g,.int .i64 (p:Int)] V fun e w'=>e= .returned (.int .i64 (P.mem:Int))∧w'=V):=fun V p b P hV hp=>Er (hG4.below hV) hp
 obtain⟨hbF,hF⟩:∃f:Nat→Bool,f=fun m=>G.hb m:=⟨_,rfl⟩
 have HHas:Hid (∀V (m:Nat),m≤9→Calls Tryz.prog 19 #[.int .i64 G.hon,.int .i64 (m:Int)] V fun e w'=>e= .returned (.bool (hbF m))∧w'=V):=fun V m hm=>by rw[hF];exact Dv G.hon m (by omega) V
 have HAg:Hid (3*((n:Int)-(h:Int))<n→∀(p q' b b':Nat) (P Q:PrS),G.ps[p]? =some (b,P)→G.ps[q']? =some (b',Q)→P.dd=true→Q.dd=true→P.dec=Q.dec):=fun hf p q' b b' P Q hp hq hP hQ=>hI4.agree hn7 hp hq hP hQ (by rw[←hh];exact hf)
 have hbx:Below w4.heap.size w4 w4:=AC _ _;have hn7':(n:Int)≤7:=by omega
 have hh10':(h:Int)≤10:=by omega
 have hw1:IntKind.i64.wrap ((n:Int)-(h:Int))=(n:Int)-(h:Int):=DE _ (by omega);have hw2:IntKind.i64.wrap (3*((n:Int)-(h:Int)))=3*((n:Int)-(h:Int)):=DE _ (by omega);obtain⟨d3,hd3⟩:∃d,d=decide ((n:Int)≤3*((n:Int)-(h:Int))):=⟨_,rfl⟩;have HD3:=AA hd3;replace hd3:=hd3.symm;clear hG4 hI4 HPl x3 hb4 hb03 hh hN hCn hF;cases d3 with
 |true=>
  go_wp2_with (first
   |(go_at_call 16;refine(HHon.out _ hbx).mono ?_;rintro en w5 ⟨rfl,hw5⟩;replace hw5:=hw5.symm;subst hw5)
   |(go_at_call 15;refine(HSize.out _).mono ?_;rintro en w5 ⟨rfl,hw5⟩;replace hw5:=hw5.symm;subst hw5)
   |(go_at_call 13;refine(HAw.out _).mono ?_;rintro en w6 ⟨rfl,hb6⟩)
   |fail)
  go_ret;exact⟨rfl,hb04.trans (hb6.mono hb04.size)⟩
 |false=>
 have hlt:3*((n:Int)-(h:Int))<n:=by
  have:=of_decide_eq_false HD3.out.symm;omega
 have HAg:=AA (HAg.out hlt);go_upto_region 9 with(first
  |(go_at_call 16;refine(HHon.out _ hbx).mono ?_;rintro en w5 ⟨rfl,hw5⟩;replace hw5:=hw5.symm;subst hw5)
  |(go_at_call 15;refine(HSize.out _).mono ?_;rintro en w5 ⟨rfl,hw5⟩;replace hw5:=hw5.symm;subst hw5)
  |fail)
 clear x4 hw1 hw2 hd3 HD3 hlt HSize;go_wp2
 go_loopw [7] (fun iv wr=>∃p:Nat,iv= .int .i64 (p:Int)∧p≤N∧Below w4.heap.size w4 wr) (fun iv _=>N-(intOf iv).toNat)
 case atStart=>exact⟨0,rfl,Nat.zero_le _,hbx⟩
 case round=>
  obtain⟨p,rfl,hpN,hb⟩:=hrel;by_cases hp:p<N
  ·have dp:decide ((p:Int)<(N:Int))=true:=by simp;omega
   obtain⟨b,P,hP,hPm,hPd⟩:=HP.out p hp;have HPp:=AA hP;go_wp2_with (go_at_call 17;refine(HPr.out _ hb).mono ?_;rintro en w5 ⟨rfl,hw5⟩;replace hw5:=hw5.symm;subst hw5)
   clear hP;have hb0:=hb;clear hb
   go_loopw [8] (fun iv wx=>∃q':Nat,iv= .int .i64 (q':Int)∧q'≤p∧Below w4.heap.size w4 wx) (fun iv _=>p-(intOf iv).toNat)
   case atStart=>exact⟨0,rfl,Nat.zero_le _,hb0⟩
   case round=>
    obtain⟨q',rfl,hqp,hb⟩:=hrel;by_cases hq:q'<p
    ·have dq:decide ((q':Int)<(p:Int))=true:=by simp;omega
     obtain⟨b2,Q,hQ,hQm,hQd⟩:=HP.out q' (by omega);have HQq:=AA hQ;have HDp:=AA (HDc.out wr p b P hb HPp.out);clear hQ;go_upto_region 16 with(go_at_call 18;refine HDp.out.mono ?_;rintro en w5 ⟨v5,rfl,hb5,hown5,_⟩)
     have hb05:Below w4.heap.size w4 w5:=hb.trans (hb5.mono hb.size);have HDq:=AA (HDc.out w5 q' b2 Q hb05 HQq.out);have HO5:=AA hown5;clear hown5 HDp;go_upto_region 17 with(go_at_call 18;refine HDq.out.mono ?_;rintro en w6 ⟨v6,rfl,hb6,hown6,_⟩)
     have hb06:Below w4.heap.size w4 w6:=hb05.trans (hb6.mono hb05.size);have HO6:=AA hown6;clear hown6 HDq;obtain⟨e1,he1⟩:∃d,P.dd=d:=⟨_,rfl⟩;obtain⟨e2,he2⟩:∃d,Q.dd=d:=⟨_,rfl⟩;rw[he1,he2];have HE1:=AA he1;have HE2:=AA he2;clear he1 he2;cases e1 with
     |false=>
      go_wp2;go_roundw
      case rel=>exact⟨q'+1,by go_num,by omega,hb06⟩
      case measure=>simp[intOf];omega
     |true=>
     cases e2 with
     |false=>
      go_wp2;go_roundw
      case rel=>exact⟨q'+1,by go_num,by omega,hb06⟩
      case measure=>simp[intOf];omega
     |true=>
     obtain⟨E,hE⟩:∃E,E=P.dec:=⟨_,rfl⟩;have hEQ:Q.dec=E:=by rw[hE];exact(HAg.out p q' b b2 P Q HPp.out HQq.out HE1.out HE2.out).symm
     have hR5:=BA (HO5.out HE1.out) hb6 (AB _);have hR6:=HO6.out HE2.out;rw[hEQ]at hR6;rw[←hE]at hR5;obtain⟨A5,c5,rfl,hS5⟩:=BY hR5;obtain⟨A6,c6,rfl,hS6⟩:=BY hR6;obtain⟨m,hm⟩:∃m,E.length=m:=⟨_,rfl⟩;have hm10:m≤10:=by rw[←hm,hE];exact hPd
     have HCh:=AA (KK A5 A6 c5 c6 m E w6 hm hS5 hS6 (by omega));rw[hm];clear HO5 HO6 hE hEQ hR5 hR6 hS5 hS6 hm HE1 HE2;obtain⟨k1,hk1⟩:∃k,hbF P.mem=k:=⟨_,rfl⟩;obtain⟨k2,hk2⟩:∃k,hbF Q.mem=k:=⟨_,rfl⟩;cases k1 with
     |false=>
      go_wp2_with (first
       |(go_at_call 16;refine(HHon.out _ hb06).mono ?_;rintro en w7 ⟨rfl,hw7⟩;replace hw7:=hw7.symm;subst hw7)
       |(go_at_call 20;refine(HMm.out _ _ _ _ hb06 (by first|exact HPp.out|exact HQq.out)).mono ?_;rintro en w7 ⟨rfl,hw7⟩;replace hw7:=hw7.symm;subst hw7)
       |(go_at_call 19;refine(HHas.out _ _ (by assumption)).mono ?_;rintro en w7 ⟨rfl,hw7⟩;replace hw7:=hw7.symm;subst hw7)
       |fail)
      go_roundw
      case rel=>exact⟨q'+1,by go_num,by omega,hb06⟩
      case measure=>simp[intOf];omega
     |true=>
     cases k2 with
     |false=>
      go_wp2_with (first
       |(go_at_call 16;refine(HHon.out _ hb06).mono ?_;rintro en w7 ⟨rfl,hw7⟩;replace hw7:=hw7.symm;subst hw7)
       |(go_at_call 20;refine(HMm.out _ _ _ _ hb06 (by first|exact HPp.out|exact HQq.out)).mono ?_;rintro en w7 ⟨rfl,hw7⟩;replace hw7:=hw7.symm;subst hw7)
       |(go_at_call 19;refine(HHas.out _ _ (by assumption)).mono ?_;rintro en w7 ⟨rfl,hw7⟩;replace hw7:=hw7.symm;subst hw7)
       |fail)
      go_roundw
      case rel=>exact⟨q'+1,by go_num,by omega,hb06⟩
      case measure=>simp[intOf];omega
     |true=>
     go_wp2_with (first
      |(go_at_call 16;refine(HHon.out _ hb06).mono ?_;rintro en w7 ⟨rfl,hw7⟩;replace hw7:=hw7.symm;subst hw7)
      |(go_at_call 20;refine(HMm.out _ _ _ _ hb06 (by first|exact HPp.out|exact HQq.out)).mono ?_;rintro en w7 ⟨rfl,hw7⟩;replace hw7:=hw7.symm;subst hw7)
      |(go_at_call 19;refine(HHas.out _ _ (by assumption)).mono ?_;rintro en w7 ⟨rfl,hw7⟩;replace hw7:=hw7.symm;subst hw7)
      |(go_at_call 21;refine HCh.out.mono ?_;rintro en w8 ⟨rfl,hb8⟩)
      |fail)
     go_roundw
     case rel=>exact⟨q'+1,by go_num,by omega,hb06.trans (hb8.mono hb06.size)⟩
     case measure=>simp[intOf];omega
    ·have dq:decide ((q':Int)<(p:Int))=false:=by simp;omega
     go_wp2;go_roundw
     case rel=>exact⟨p+1,by go_num,by omega,hb⟩
     case measure=>simp[intOf];omega
  ·have dp:decide ((p:Int)<(N:Int))=false:=by simp;omega
   go_wp2_with (first
    |(go_at_call 17;refine(HPr.out _ hb).mono ?_;rintro en w5 ⟨rfl,hw5⟩;replace hw5:=hw5.symm;subst hw5)
    |(go_at_call 13;refine(HAw.out _).mono ?_;rintro en w6 ⟨rfl,hb6⟩)
    |fail)
   go_ret;exact⟨rfl,(hb04.trans (hb.mono hb04.size)).trans (hb6.mono (AF hb04.size hb.size))⟩
end
namespace gameAgrees
open Go.ChangeShapes Go.WideShapes Go.ChangeAt Go.RowKit
theorem own:ownKnob Tryz.prog.godebug=none:=by kernel_rfl
theorem laidOut:laidOutB Tryz.prog=true:=by kernel_rfl
theorem lifted(os:Os)(started:os.Started)(H:Type)(enc:TypeId×Value→H):ReturnsInHanded {} Tryz.checked os 3 .any (Rows.gameAgreesSpec.pre6 enc Tryz.prog Tryz.f3 Rows.gameAgreesRow.domain false) (Rows.gameAgreesSpec.post enc Tryz.prog Tryz.f3 false true false false):=by
 refine returnsInHanded_of_change_sized (C:=Tryz.checked) own started (by kernel_rfl) Tryz.func3
  (ChangeSpec.witness6 (enc:=enc) (C:=Tryz.checked) false ⟨#[],#[.agg #[.int .i64 0,.int .i64 0,.int .i64 0,.int .u8 0,.int .u8 0,.int .u8 0,.int .u8 0,.int .u8 0,.int .u8 0,.int .u8 0,.int .u8 0],.slice none 0 0],[]⟩ 8 (by kernel_rfl) (by kernel_rfl) (by kernel_rfl) (by kernel_rfl)) ?_
 intro W base args ds gs before hval0 hW hcnd hsz0 _;have hval:∀(j:Nat) t v,Tryz.f3.params[j]? =some t→args[j]? =some v→Value.okWide Tryz.prog W .any base t v:=hval0;have hW':=hW;obtain⟨p,q,hA0,hV,rfl,hfz,hnd⟩:=hW;have hA:DataW.TrodAll enc Tryz.prog W 0 (fun _=>true) true Tryz.f3.params.toList args.toList ds p:=hA0;have hsz:(DataW.weightsEach Tryz.prog (Tryz.f3.params.toList++Rows.gameAgreesSpec.plain.varTypes Tryz.prog) (ds++gs)).all (·≤reachBytes)=true:=hsz0;rw[Tryz.params3]at hA hval hsz;obtain⟨v0,vs0,d0,ds0,p0,q0,hargs,rfl,rfl,h0,r0⟩:=trodAll_cons hA;obtain⟨v1,vs1,d1,ds1,p1,q1,ha1,rfl,rfl,h1,r1⟩:=trodAll_cons r0;subst ha1;obtain⟨rfl,rfl,rfl⟩:=trodAll_nil r1;obtain rfl:args=#[v0,v1]:=by cases args;simp_all
 obtain⟨rfl,rfl⟩:=trodVars_none hV;have hwt:∀k∈DataW.weightsEach Tryz.prog ([26,27]++Rows.gameAgreesSpec.plain.varTypes Tryz.prog) ([d0,d1]++[]),k≤reachBytes:=fun k hk=>by simpa using List.all_eq_true.1 hsz k hk
 have k0:=h0;have lt0:∀x∈p0,x.block<W.heap.size:=by obtain⟨m,hm⟩:=k0;exact DataW.trod_lt m _ _ _ hm
 obtain⟨s0,hv0⟩:∃s:Cfg,v0.cells.toList=s.cells.toList:=by
  obtain⟨fuel,hf⟩:=h0;exact JY hf
 obtain⟨cs0,hag0,_⟩:=okWide_struct Tryz.underlying26 (hval 0 26 v0 rfl rfl);obtain rfl:=NB hag0 hv0;clear hag0 hv0;have k1:=h1;have lt1:∀x∈p1,x.block<W.heap.size:=by obtain⟨m,hm⟩:=k1;exact DataW.trod_lt m _ _ _ hm
 obtain⟨A1,l1,cap1,hv1,hr1,hok1,hl1,hm1,_⟩:∃(A:Option Addr) (l:List Stp) (cap:Nat),v1.cells.toList=[.slice A l.length cap]∧Rd W W.heap.size A (l.flatMap stc)∧(∀a∈l,a.vote.ok)∧l.length≤cap∧cap≤maxLen∧l.length*Tryz.prog.bytesOf 48≤reachBytes:=by
  obtain⟨fuel,hf⟩:=h1;exact Hj stc 25 (fun a=>a.vote.ok) Tryz.underlying27 IV (by omega) (fun n cs x h _=>GB h) (fun _=>rfl) hf (Df hwt (j:=1) (t:=27) rfl rfl)
 obtain⟨a1,len1,c1,rfl⟩:=okWide_slice Tryz.underlying27 (hval 1 27 v1 rfl rfl);simp[Value.cells]at hv1;obtain⟨rfl,rfl,rfl⟩:=hv1;clear hA0 hval0;refine(K0 s0 a1 l1.length c1 l1 W rfl hr1 hok1).mono fun e W' ⟨he,bel⟩=>?_
 subst he;exact⟨_,rfl,_,_,_,[],_,[],hW',trodAll_mk1 (shut_bool Tryz.underlying4 _),(trodAll_cons_mk (Below.trod laidOut (by kernel_rfl) (of_decide_eq_true (by kernel_rfl)) k0 bel lt0) (trodAll_cons_mk (Below.trod laidOut (by kernel_rfl) (of_decide_eq_true (by kernel_rfl)) k1 bel lt1) trodAll_mk0)),rfl,bel.frame _,fun h=>by cases h⟩
theorem over:Rows.gameAgreesRow.holds Tryz.pinned (OpenSpec.ofChange Rows.gameAgreesSpec):=
 OpenClaim.holds_of_wide 3 Tryz.f3 rfl rfl rfl rfl rfl rfl rfl ⟨rfl,rfl,rfl,rfl,rfl⟩ rfl rfl rfl rfl rfl (by kernel_rfl) Tryz.func3 closed
  (of_decide_eq_true (by kernel_rfl)) (by unfold Func.isWrapper;first|(rw[if_pos (by decide+kernel)];kernel_rfl)|(rw[if_neg (by decide+kernel)];exact⟨rfl,rfl⟩))
  (fun os started H enc _=>lifted os started H enc)
theorem proved:Rows.GameAgreesSaid:=over
end gameAgrees
end Go.Proofs.YtadllffeoibelaaGreat
