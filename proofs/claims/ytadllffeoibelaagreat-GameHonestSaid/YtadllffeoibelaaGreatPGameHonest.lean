/-
 For every configuration and all steps, an honest member signs no two votes in conflict, and signed whatever is held in its name: the law GameHonest returns true. No condition.
-/
import Derived.Test.YtadllffeoibelaaGreatS1
import Derived.Test.YtadllffeoibelaaGreatS44
import Derived.Test.YtadllffeoibelaaGreatS43
import Derived.Test.YtadllffeoibelaaGreatS22
import Derived.Great.Walk
import Derived.Test.YtadllffeoibelaaGreatS50
import Derived.Test.YtadllffeoibelaaGreatS6
import Derived.Test.YtadllffeoibelaaGreatS51
import Derived.ShutString
import Derived.ChangeOld
namespace Go.Proofs.YtadllffeoibelaaGreat
set_option maxRecDepth 100000
set_option maxHeartbeats 32000000
set_option linter.all false
namespace gameHonest
theorem j1:(Rows.gameHonestRow.wf (OpenSpec.ofChange Rows.gameHonestSpec))=true:=by kernel_rfl
theorem j2:(laidOutB Tryz.prog)=true:=PI
theorem j3:(mapsRowed Tryz.prog)=true:=PJ
theorem j4:(Tryz.f7.params.all (Tryz.prog.readableRec ·))=true:=by kernel_rfl
theorem j5:(namedTie Tryz.prog Rows.gameHonestRow.named Rows.gameHonestSpec.vars)=true:=by kernel_rfl
theorem j6:((Rows.gameHonestRow.stops==[]))=true:=by kernel_rfl
theorem j7:((Tryz.prog.stops==[]))=true:=by kernel_rfl
theorem j8:((Rows.gameHonestRow.knobs==[]))=true:=by kernel_rfl
theorem j9:((Tryz.prog.stopKnobs==[]))=true:=by kernel_rfl
theorem j10:((Rows.gameHonestRow.inPlace==Tryz.prog.inPlace 7))=true:=by kernel_rfl
theorem j11:((Rows.gameHonestRow.unfollowed==Tryz.prog.unfollowed 7))=true:=by kernel_rfl
theorem j12:((Rows.gameHonestRow.recurses==Tryz.prog.recurses 7))=true:=by kernel_rfl
theorem j13:((Rows.gameHonestRow.named==Tryz.prog.varsNamed 7))=true:=by kernel_rfl
theorem j14:((Rows.gameHonestRow.maps==(Tryz.f7.params.toList++Rows.gameHonestSpec.plain.varTypes Tryz.prog).any (Tryz.prog.mapsRec ·)))=true:=by kernel_rfl
theorem j15:((Rows.gameHonestRow.ifaces==(Tryz.f7.params.toList++Rows.gameHonestSpec.plain.varTypes Tryz.prog).any (Tryz.prog.ifacesRec ·)))=true:=by kernel_rfl
theorem j16:((Rows.gameHonestRow.mapsOut==Tryz.prog.mapsAmong Tryz.f7.resultTypes.toList))=true:=by kernel_rfl
theorem j17:((Rows.gameHonestRow.loops==(Tryz.f7.params.toList++Rows.gameHonestSpec.plain.varTypes Tryz.prog).any (Tryz.prog.loopsFrom ·)))=true:=by kernel_rfl
theorem j18:((Rows.gameHonestRow.wideKeys==(Tryz.f7.params.toList++Rows.gameHonestSpec.plain.varTypes Tryz.prog++Tryz.f7.resultTypes.toList).any (Tryz.prog.wideKeysFrom ·)))=true:=by kernel_rfl
theorem j19:(Rows.gameHonestSpec.vars.all (Tryz.prog.varReadable ·))=true:=by kernel_rfl
theorem j20:(Tryz.f7.resultTypes.all (fun t=>Tryz.prog.readableRec t&&decide (t<Tryz.prog.types.size)))=true:=by kernel_rfl
theorem j21:((Rows.gameHonestRow.ifacesOut==Tryz.f7.resultTypes.toList.any (Tryz.prog.ifacesRec ·)))=true:=by kernel_rfl
theorem j22:((Rows.gameHonestRow.loopsOut==Tryz.f7.resultTypes.toList.any (Tryz.prog.loopsFrom ·)))=true:=by kernel_rfl
theorem j23:((Rows.gameHonestRow.plainKeys==Tryz.prog.plainKeys))=true:=by kernel_rfl
theorem j24:(Rows.gameHonestRow.shortTexts.isNone)=true:=by kernel_rfl
theorem j25:(Tryz.prog.stopsHeard)=true:=ML
theorem j26:(Tryz.prog.mayEnter)=true:=MI
theorem j27:((Rows.gameHonestRow.lifted==Tryz.prog.liftsFinal))=true:=MJ
theorem j28:((Tryz.prog.make==some Rows.gameHonestRow.make))=true:=MK
theorem j29:((Rows.gameHonestRow.kinds==(if Rows.gameHonestRow.domain.isEmpty then[]else Tryz.f7.params.toList.map fun t=>match Tryz.prog.underlying t with |some (.int k)=>some k|_=>none)))=true:=by kernel_rfl
theorem j30:((Rows.gameHonestRow.pinned==Rows.gameHonestRow.pinnedBy))=true:=by kernel_rfl
theorem j31:((Rows.gameHonestRow.veiled==(Tryz.f7.params.toList++Rows.gameHonestSpec.plain.varTypes Tryz.prog++Tryz.f7.resultTypes.toList).any (Tryz.prog.veiledRec ·)))=true:=by kernel_rfl
theorem j32:(Rows.gameHonestRow.veiledFits Tryz.prog Tryz.f7.params.toList (Tryz.f7.params.toList++Rows.gameHonestSpec.plain.varTypes Tryz.prog++Tryz.f7.resultTypes.toList))=true:=by kernel_rfl
theorem closed:joinedFacts Tryz.prog 7 Tryz.f7 Rows.gameHonestSpec Rows.gameHonestRow=true:=by
 unfold joinedFacts;exact Ax (Ax (Ax (Ax (Ax (Ax (Ax (Ax (Ax (Ax (Ax (Ax (Ax (Ax (Ax (Ax (Ax (Ax (Ax (Ax (Ax (Ax (Ax (Ax (Ax (Ax (Ax (Ax (Ax (Ax (Ax (j1) j2) j3) j4) j5) j6) j7) j8) j9) j10) j11) j12) j13) j14) j15) j16) j17) j18) j19) j20) j21) j22) j23) j24) j25) j26) j27) j28) j29) j30) j31) j32
end gameHonest
section
open Go.RowKit
attribute [local go_sem ↓] Go.wp_at_zero Go.wp_at_succ An Au Av Aw
attribute [local go_sem] BD BH BI BJ AN AW AQ
abbrev sgN(v:Vt):Sg:=⟨v,[],none,0⟩
theorem RC{o:Oper}{a:Act}(v:Vt)(s:Operand)(ho:o.op= .build 62 #[(0,s)])(hs:a.eval s= .agg v.cells)(w:World):(execOp a.eval o).run Tryz.prog w= .ok (.value (Sg.mk v [] none 0).val) w:=by
 unfold Sg.val;rw[NK];unfold execOp;rw[ho];simp only[List.map_toArray,List.map_cons,List.map_nil,hs];go_simp
theorem MF{Bs g m:Nat}{w:World}{G:GmS}{y:Value×List Vt}(h:A9 Bs w g G)(hm:G.sg[m]? =some y)(hv:∀v∈y.2,v.ok)(hsm:y.2.length≤1000000):Calls Tryz.prog 25 #[Am g,.int .i64 (m:Int)] w (EK w (F7 (y.2.map fun v=>(v,([]:List UInt8))))):=by
 obtain⟨sb,sc,hsv,x2,_,hmn⟩:=CF (i:=m) (u:=y.1) h.srow (by rw[AU,hm];rfl);have x1:w.cell? ⟨g,12,none⟩=some (.slice (some ⟨sb,0,none⟩) G.sg.length sc):=by rw[←hsv];exact h.blk.cell 12
 obtain⟨l,hl⟩:∃l,l=y.2:=⟨_,rfl⟩;have hR:=h.sgs m y hm;rw[←hl]at hv hsm hR ⊢;obtain⟨A,c,e,hR⟩:=BY hR;rw[e]at x2;obtain⟨k,hk⟩:∃k,l.length=k:=⟨_,rfl⟩;obtain⟨n,hn⟩:∃n,n=G.sg.length:=⟨_,rfl⟩;rw[←hn]at x1 hmn;rw[hk]at x2 hsm;have m0:decide ((m:Int)<0)=false:=by simp
 have m1:decide ((n:Int)≤(m:Int))=false:=by simp;omega
 have m2:decide (n≤m)=false:=by simp;omega
 have HR:=AA hR;have HK:=AA hk;have HV:=AA hv;clear h hm hsv hl hv hR e hk hn;go_enter Tryz.func25,Tryz.ntmps25;go_wp2
 go_loopw [5,31] (fun v iv wr=>∃i:Nat,iv= .int .i64 (i:Int)∧i≤k∧wr.ownsRow w.heap.size 62 23 v i (((l.take i).map sgN).flatMap sgc)∧Below w.heap.size w wr) (fun _ iv _=>k-(intOf iv).toNat)
 case atStart=>exact⟨0,rfl,Nat.zero_le _,⟨by simp,.inl ⟨rfl,rfl⟩⟩,AC _ _⟩
 case round=>
  obtain⟨i,rfl,hik,hown,hb⟩:=hrel;have HOwn:=AA hown;clear hown;by_cases hi:i<k
  ·have di:decide ((i:Int)<(k:Int))=true:=by simp;omega
   obtain⟨x,hx⟩:∃x,l[i]? =some x:=⟨_,AE (by rw[HK.out];exact hi)⟩;obtain⟨b0,o,rfl,hb0,_⟩:=HR.out.cells (by intro e;have:=AX vtc 22 l (B6 l);rw[e,HK.out]at this;simp at this;omega);have x3:AK wr b0 (o+i*22) 22=some x.cells:=(HR.out.below hb).voteRow hx;have HNx:Hid ((l.take (i+1)).map sgN=(l.take i).map sgN++[sgN x]):=by unfold Hid;rw[Ag,hx,BE,Ac];rfl
   clear hx hb0;go_upto_region 7 with(refine AJ rfl 46 (.tmp 7) (.tmp 34) rfl wr.heap.size x.cells rfl rfl 46 Bk.cells (Blk.new wr _ _) (by rfl) (by kernel_rfl) (fun u hu=>BM x hu) ?_;intro w4 hB4 hg4 hsz4)
   have hb4:Below w.heap.size w w4:=(hb.alloc hb.size _).grown hg4 (AF hb.size (by simp)) (fun k hk=>by injection hk with hk;subst hk;exact hb.size);have HOwn4:Hid (w4.ownsRow w.heap.size 62 23 u5 i (((l.take i).map sgN).flatMap sgc)):=BZ (HOwn.out.alloc _) hg4 (fun k hk=>by
    injection hk with hk
    subst hk;right;intro e;have:=(HOwn.out.lt _ e).2;omega)
   obtain⟨z,hz⟩:∃z,z=wr.heap.size:=⟨_,rfl⟩;rw[←hz]at hB4 ⊢;have x4:AK w4 z 0 22=some x.cells:=hB4.row 22 rfl;clear hB4 hg4 hsz4 x3 hz HOwn hb;try go_frame
   have hsc:(sgN x).cells.size=23:=Sg.size_cells _;go_wp2_with ((first
    |(refine Great.wpList_readTo rfl (some 37) rfl (.agg (sgN x).cells) (RC x (.tmp 36) rfl rfl _) ?_)
    |(refine BP rfl 50 62 (.tmp 37) rfl (sgN x).cells rfl Tryz.underlying50 (by rw[hsc];kernel_rfl) (by rw[hsc];decide) (by rw[hsc];decide) ?_)
    |(at_builtin;refine Aq rfl (.tmp 35) (.tmp 38) _ rfl w.heap.size 62 (.agg BK) 23 88 Tryz.underlying50 C6 rfl (by decide) u5 i (((l.take i).map sgN).flatMap sgc) rfl ?r0 (w4.heap.size+1) (some ⟨w4.heap.size,0,none⟩) 1 1 (sgc (sgN x)) rfl ?r1 ?r2 ?r3 ?r4 ?r5 ?r6 ?_)))
   case r0=>exact HOwn4.out.alloc _
   case r1=>exact(CM [sgN x]) _ (AR.2 rfl)
   case r2=>exact Rd.mk (by omega) (fun j u hu=>by rw[Nat.zero_add,(Blk.new w4 _ _).cell];simpa using hu)
   case r3=>exact fun u hu=>(sgN x).one u hu
   case r4=>omega
   case r5=>unfold maxLen;omega
   case r6=>have:=hb4.size;simp;omega
   intro v7 w7 hown7 hg7 hat7;have hb7:=BL (hb4.alloc hb4.size _) (HOwn4.out.alloc _) hg7;have HOwn7:Hid (w7.ownsRow w.heap.size 62 23 v7 (i+1) (((l.take (i+1)).map sgN).flatMap sgc)):=by
    unfold Hid;rw[HNx.out,Ad];simpa using hown7
   clear hown7 hg7 hat7 x4;go_wp2;go_roundw
   case rel=>exact⟨i+1,by go_num,by omega,HOwn7.out,hb7⟩
   case measure=>simp[intOf];omega
  ·have di:decide ((i:Int)<(k:Int))=false:=by simp;omega
   have e:l.take i=l:=AT (by rw[HK.out];omega);have hik':i=k:=by omega
   obtain⟨A5,c5,rfl,hR5⟩:=BY HOwn.out;rw[e]at hR5;have HVt:=AA (Iw A5 i c5 (l.map sgN) wr (by rw[AY,HK.out,hik']) hR5 (fun s hs=>by
    obtain⟨v,hv,rfl⟩:=List.mem_map.1 hs;exact⟨⟨HV.out v hv,.inl rfl,by show 0≤_;omega⟩,by show 0≤0;omega,by show 0≤maxLen;unfold maxLen;omega⟩) (by omega))
   rw[show(l.map sgN).map Sg.vs=l.map fun v=>(v,([]:List UInt8))by rw[List.map_map];rfl]at HVt;clear e hik' hR5;go_wp2_with (go_at_call 47;refine HVt.out.mono ?_;rintro en w8 ⟨v8,rfl,hb8,hown8⟩;have HO8:=AA hown8;clear hown8)
   go_ret;exact⟨v8,rfl,hb.trans (hb8.mono hb.size),BF HO8.out hb.size⟩
end
section
open Go.RowKit
attribute [local go_sem ↓] Go.wp_at_zero Go.wp_at_succ An Au Av Aw IT IU
attribute [local go_sem] BD BH BI BJ Kq Kr AN AW AQ
theorem IX{v:Vt}(h:Ae v):v.ok:=by
 obtain⟨_,_,_,h4,_⟩:=h;exact⟨by omega,by omega⟩
abbrev Se(y:Value×List Vt):List Vt:=F7 (y.2.map fun v=>(v,([]:List UInt8)))
theorem GE{y:Value×List Vt}{v:Vt}:v∈Se y↔v∈y.2:=by
 rw[DB,List.map_map];simp
theorem PF(y:Value×List Vt):(Se y).length≤y.2.length:=by
 show((CD _).map _).length≤_;rw[AY];have:=C7 (y.2.map fun v=>(v,([]:List UInt8)));rwa[AY]at this
theorem K2(C:Cfg)(A:Option Addr)(k c:Nat)(l:List Stp)(w:World)(hk:l.length=k)(hr:Rd w w.heap.size A (l.flatMap stc))(hok:∀s∈l,s.vote.ok):Calls Tryz.prog 7 #[C.val,.slice A k c] w fun e w'=>e= .returned (.bool true)∧Below w.heap.size w w':=by
 obtain⟨w1,hw1⟩:∃w1,w1=w.alloc (.cells C.cells 26):=⟨_,rfl⟩;have hb1:Below w.heap.size w w1:=by rw[hw1];exact(AC _ _).alloc (AB _) _
 obtain⟨q,hq⟩:∃q,q=w.heap.size:=⟨_,rfl⟩;have hQ1:Blk w1 q 26 C.cells:=by rw[hw1,hq];exact Blk.new w _ _
 have x1:AK w1 q 0 11=some C.cells:=hQ1.row 11 rfl;obtain⟨d0,hd0⟩:∃d,d=decide (k≤60):=⟨_,rfl⟩;obtain⟨d1,hd1⟩:∃d,d=decide (1≤C.n∧C.n≤7):=⟨_,rfl⟩;have HFew:Hid (∀W,Calls Tryz.prog 11 #[.slice A k c] W fun e w'=>e= .returned (.bool d0)∧w'=W):=fun W=>by rw[hd0];exact Ku A k c W
 have HVal:Hid (∀W,Calls Tryz.prog 12 #[C.val] W fun e w'=>e= .returned (.bool d1)∧Below W.heap.size W w'):=fun W=>by rw[hd1];exact FM C W
 have HAw:=AA FN;have HPlay:Hid (d0=true→d1=true→∀V,Below w.heap.size w V→Calls Tryz.prog 14 #[C.val,.slice A k c] V fun e w'=>∃g G Bs n,e= .returned (Am g)∧Below V.heap.size V w'∧V.heap.size≤Bs∧Bs≤w'.heap.size∧A9 Bs w' g G∧PlI n C.T C.L C.seed 60 G∧C.n=(n:Int)∧n≤7):=fun e0 e1 V hV=>by
  rw[hd0]at e0;rw[hd1]at e1;have e0:=of_decide_eq_true e0;have e1:=of_decide_eq_true e1;obtain⟨n,hn⟩:∃n:Nat,C.n=(n:Int):=⟨C.n.toNat,by omega⟩;have hC:C=Cfg.mk (n:Int) C.T C.L C.seed:=by rw[←hn]
  rw[show C.val=(Cfg.mk (n:Int) C.T C.L C.seed).val by rw[←hC]];exact(JR n (by omega) C.T C.L C.seed A k c l V hk e0 ((hr.below hV).more hV.size) hok).mono fun e w' ⟨g,G,Bs,a1,a2,a3,a4,a5,a6⟩=>⟨g,G,Bs,n,a1,a2,a3,a4,a5,a6,hn,by omega⟩
 have HW1:=AA hw1;have HQ:=AA hq;clear hw1 hq hQ1 hd0 hd1 hr hok hk;go_enter Tryz.func7,Tryz.ntmps7;go_upto_region 1 with fail
 simp only[←HW1.out,←HQ.out];have hsw:=hb1.size;cases d0 with
 |false=>
  clear HPlay HVal;go_wp2_with (first
   |(go_at_call 11;refine(HFew.out _).mono ?_;rintro en w2 ⟨rfl,hw2⟩;replace hw2:=hw2.symm;subst hw2)
   |(go_at_call 13;refine(HAw.out _).mono ?_;rintro en w3 ⟨rfl,hb3⟩)
   |fail)
  go_ret;exact⟨rfl,hb1.trans (hb3.mono hsw)⟩
 |true=>
 cases d1 with
 |false=>
  clear HPlay;go_wp2_with (first
   |(go_at_call 11;refine(HFew.out _).mono ?_;rintro en w2 ⟨rfl,hw2⟩;replace hw2:=hw2.symm;subst hw2)
   |(go_at_call 12;refine(HVal.out _).mono ?_;rintro en w3 ⟨rfl,hb3⟩)
   |(go_at_call 13;refine(HAw.out _).mono ?_;rintro en w4 ⟨rfl,hb4⟩)
   |fail)
  go_ret;exact⟨rfl,(hb1.trans (hb3.mono hsw)).trans (hb4.mono (AF hsw hb3.size))⟩
 |true=>
 go_upto_region 3 with(first
  |(go_at_call 11;refine(HFew.out _).mono ?_;rintro en w2 ⟨rfl,hw2⟩;replace hw2:=hw2.symm;subst hw2)
  |(go_at_call 12;refine(HVal.out _).mono ?_;rintro en w3 ⟨rfl,hb3⟩)
  |fail)
 have hb03:Below w.heap.size w w3:=hb1.trans (hb3.mono hsw);have hq3:q<w3.heap.size:=by
  have h1:q<w1.heap.size:=by rw[HW1.out,HQ.out];simp
  exact Nat.lt_of_lt_of_le h1 hb3.size
 have x3:AK w3 q 0 11=some C.cells:=Ay x1 hb3 (by rw[HW1.out,HQ.out];simp);have HPl:=AA (HPlay.out (by trivial) (by trivial) w3 hb03);clear HPlay HFew HVal x1;go_upto_region 4 with(go_at_call 14;refine HPl.out.mono ?_;rintro en w4 ⟨g,G,Bs,n,rfl,hb4,hB3,hB4,hG4,hI4,hCn,hn7⟩)
 have hb04:Below w.heap.size w w4:=hb03.trans (hb4.mono hb03.size);have hwB:w.heap.size≤Bs:=AF hb03.size hB3;have x4:w4.cell? ⟨q,0,none⟩=some (.int .i64 (n:Int)):=by
  rw[←hCn];exact(Cl (Ay x3 hb4 hq3)).2 0 _ rfl
 have hq4:q<w4.heap.size:=Nat.lt_of_lt_of_le hq3 hb4.size;have HX:Hid (∀V,Below w4.heap.size w4 V→V.cell? ⟨q,0,none⟩=some (.int .i64 (n:Int))):=fun V hV=>(hV.cell (p:=⟨q,0,none⟩) hq4).trans x4
 have HHon:Hid (∀V,Below w4.heap.size w4 V→Calls Tryz.prog 16 #[Am g] V fun e w'=>e= .returned (.int .i64 G.hon)∧w'=V):=fun V hV=>JU (hG4.below hV)
 obtain⟨N,hN⟩:∃N,N=G.ps.length:=⟨_,rfl⟩;have hN20:N≤20:=by have:=hI4.inv.psn;have:=hI4.inv.n1;omega
 have HPr:Hid (∀V,Below w4.heap.size w4 V→Calls Tryz.prog 17 #[Am g] V fun e w'=>e= .returned (.int .i64 (N:Int))∧w'=V):=fun V hV=>by rw[hN];exact CK (hG4.below hV)
 obtain⟨hbF,hF⟩:∃f:Nat→Bool,f=fun m=>G.hb m:=⟨_,rfl⟩
 have HHas:Hid (∀V (m:Nat),m≤9→Calls Tryz.prog 19 #[.int .i64 G.hon,.int .i64 (m:Int)] V fun e w'=>e= .returned (.bool (hbF m))∧w'=V):=fun V m hm=>by rw[hF];exact Dv G.hon m (by omega) V
 --what was signed for member i
 have HSg:Hid (∀i,i<n→∃D:List Vt,D.length≤1000000∧(∀v∈D,Ae v)∧(∀V,Below w4.heap.size w4 V→Calls Tryz.prog 25 #[Am g,.int .i64 (i:Int)] V (EK V D))∧(hbF i=true→∀u∈D,∀v∈D,¬IE u v)∧
   ∀(p b:Nat) (P:PrS),G.ps[p]? =some (b,P)→∀v∈P.D,v.signer=(i:Int)→v∈D):=fun i hi=>by
  obtain⟨y,hy⟩:∃y,G.sg[i]? =some y:=⟨_,AE (by rw[hI4.inv.sgn];exact hi)⟩;have hl:=hI4.inv.slen hy;refine⟨Se y,by have:=PF y;omega,fun v hv=>(hI4.inv.sgd i y hy v (GE.1 hv)).1,fun V hV=>MF (hG4.below hV) hy (fun v hv=>IX (hI4.inv.sgd i y hy v hv).1) (by omega),fun hh u hu v hv hc=>?_,fun p b P hp v hv hs=>?_⟩
  ·obtain⟨c1,⟨c2,c3,c4,c5,c6⟩,_⟩:=hc;rw[hF]at hh;exact c1 (hI4.inv.uniq i y hh hy u (GE.1 hu) v (GE.1 hv) ⟨c2,c4,c5,c6,c3⟩)
  ·obtain⟨x,hx,rfl⟩:=PrS.mem_D.1 hv;obtain⟨_,m,a,_,_,m1,m2,m3,_⟩:=hI4.inv.held p b P hp x hx;have e1:m=i:=by have:x.vote.signer=(m:Int):=m1;omega
   subst e1;rw[hy]at m2;injection m2 with m2
   subst m2;exact GE.2 m3
 have HPs:Hid (∀p,p<N→∃b P,G.ps[p]? =some (b,P)∧P.L.length≤1000000):=fun p hp=>by
  obtain⟨⟨b,P⟩,hP⟩:∃x,G.ps[p]? =some x:=⟨_,AE (by rw[←hN];exact hp)⟩;exact⟨b,P,hP,by have:=hI4.inv.len hP;omega⟩
 have HHe:Hid (∀V (p b:Nat) (P:PrS),Below w4.heap.size w4 V→G.ps[p]? =some (b,P)→P.L.length≤1000000→Calls Tryz.prog 23 #[Am g,.int .i64 (p:Int)] V (FC V (P.L.map Sg.vs))):=fun V p b P hV hp hl=>JV (hG4.below hV) hp hl
 have hbx:Below w4.heap.size w4 w4:=AC _ _;have hn7':(n:Int)≤7:=by omega
 clear hG4 hI4 HPl x3 x4 hb4 hb03 hN hCn hF;go_wp2
 go_loopw [6] (fun iv wr=>∃i:Nat,iv= .int .i64 (i:Int)∧i≤n∧Below w4.heap.size w4 wr) (fun iv _=>n-(intOf iv).toNat)
 case atStart=>exact⟨0,rfl,Nat.zero_le _,hbx⟩
 case round=>
  obtain⟨i,rfl,hin,hb⟩:=hrel;have x5:=HX.out wr hb;by_cases hi:i<n
  ·have di:decide ((i:Int)<(n:Int))=true:=by simp;omega
   have hi9:i≤9:=by omega
   obtain⟨D,hD6,hDv,hSg,hNc,hAll⟩:=HSg.out i hi;have HSg1:=AA (hSg wr hb);have HDv:=AA hDv;have HNc:=AA hNc;have HAll:=AA hAll;clear hDv hSg hNc hAll;go_upto_region 10 with(go_at_call 25;refine HSg1.out.mono ?_;rintro en w5 ⟨v5,rfl,hb5,hown5⟩)
   obtain⟨AD,cD,rfl,hRD⟩:=BY hown5;obtain⟨nD,hnD⟩:∃nD,D.length=nD:=⟨_,rfl⟩;rw[hnD]at hD6 ⊢;have HRD:=AA hRD;have HND:=AA hnD;have hb05:Below w4.heap.size w4 w5:=hb.trans (hb5.mono hb.size);obtain⟨k1,hk1⟩:∃k,hbF i=k:=⟨_,rfl⟩;clear hRD hnD hown5 HSg1 x5 hb hb5;cases k1 with
   |false=>
    go_wp2_with (first
     |(go_at_call 16;refine(HHon.out _ hb05).mono ?_;rintro en w6 ⟨rfl,hw6⟩;replace hw6:=hw6.symm;subst hw6)
     |(go_at_call 19;refine(HHas.out _ _ hi9).mono ?_;rintro en w6 ⟨rfl,hw6⟩;replace hw6:=hw6.symm;subst hw6)
     |fail)
    go_roundw
    case rel=>exact⟨i+1,by go_num,by omega,hb05⟩
    case measure=>simp[intOf];omega
   |true=>
   have HNc1:=AA (HNc.out hk1);go_wp2_with (first
    |(go_at_call 16;refine(HHon.out _ hb05).mono ?_;rintro en w6 ⟨rfl,hw6⟩;replace hw6:=hw6.symm;subst hw6)
    |(go_at_call 19;refine(HHas.out _ _ hi9).mono ?_;rintro en w6 ⟨rfl,hw6⟩;replace hw6:=hw6.symm;subst hw6)
    |fail)
   clear HNc hk1
   go_loopw [8] (fun kv wr=>∃j:Nat,kv= .int .i64 (j:Int)∧j≤nD∧Below w5.heap.size w5 wr) (fun kv _=>nD-(intOf kv).toNat)
   case atStart=>exact⟨0,rfl,Nat.zero_le _,AC _ _⟩
   case round=>
    obtain⟨j,rfl,hjn,hb6⟩:=hrel;have hw1:IntKind.i64.wrap ((j:Int)+1)=((j+1:Nat):Int):=DE _ (by omega);by_cases hj:j+1<nD
    ·have dj:decide ((j:Int)+1<(nD:Int))=true:=by simp;omega
     have j0:(0:Int)≤(j:Int):=by omega
     have j1:(j:Int)<(nD:Int):=by omega
     have j2:(0:Int)≤(j:Int)+1:=by omega
     have j3:(j:Int)+1<(nD:Int):=by omega
     obtain⟨x,hx⟩:∃x,D[j]? =some x:=⟨_,AE (by rw[HND.out];omega)⟩;obtain⟨y,hy⟩:∃y,D[j+1]? =some y:=⟨_,AE (by rw[HND.out];omega)⟩;obtain⟨bD,oD,rfl,hbD,_⟩:=HRD.out.cells (by intro e;have:=AX vtc 22 D (B6 D);rw[e,HND.out]at this;simp at this;omega);have HRows:Hid (∀V,Below w5.heap.size w5 V→AK V bD (oD+j*22) 22=some x.cells∧AK V bD (oD+(j+1)*22) 22=some y.cells):=fun V hV=>⟨(HRD.out.below hV).voteRow hx,(HRD.out.below hV).voteRow hy⟩
     have HCf:Hid (∀V,Calls Tryz.prog 26 #[x.val,y.val] V (Al V false)):=fun V=>by
      have:=Q3 x y V (IX (HDv.out x (AM hx))) (IX (HDv.out y (AM hy)));rwa[decide_eq_false (HNc1.out x (AM hx) y (AM hy))]at this
     clear hx hy hbD;go_upto_region 14 with fail
     refine rgD (fun V=>AK V bD (oD+j*22) 22=some x.cells∧AK V bD (oD+(j+1)*22) 22=some y.cells) (HRows.out _ hb6.drew) fun hHeld=>?_
     refine tkD 49 0 ?_;go_frame;refine tkD 50 1 ?_;go_frame;refine tkD 51 2 ?_;go_frame;refine tkD 52 3 ?_;go_frame;refine tkD 53 4 ?_;go_frame;refine tkD 54 5 ?_;go_frame;refine tkD 55 6 ?_;go_frame;refine tkD 56 7 ?_;go_frame;refine tkD 57 8 ?_;go_frame;refine rd1 9 fun K hK=>?_
     go_simp;refine(HCf.out _).mono ?_;rintro en w7 ⟨rfl,hb7⟩;have hb57:Below w5.heap.size w5 w7:=hb6.drew.trans (hb7.mono hb6.size);go_wp2_with fail
     refine hK.out _ _ (HRows.out _ hb57) (fun hHeld=>?_);clear hK K;try go_frame
     refine dnD ?_;go_wp2_with fail
     go_roundw
     case rel=>exact⟨j+1,by go_num,by omega,hb57⟩
     case measure=>simp[intOf];omega
    ·have dj:decide ((j:Int)+1<(nD:Int))=false:=by simp;omega
     have hb46:Below w4.heap.size w4 wr:=hb05.trans (hb6.mono hb05.size);have HRD6:Hid (Rd wr wr.heap.size AD (D.flatMap vtc)):=(HRD.out.below hb6).more hb6.size;generalize wr=w6 at*;clear HNc1 HRD hb05 hb6 hw1 hj;go_wp2
     go_loopw [9] (fun pv wr=>∃p:Nat,pv= .int .i64 (p:Int)∧p≤N∧Below w6.heap.size w6 wr) (fun pv _=>N-(intOf pv).toNat)
     case atStart=>exact⟨0,rfl,Nat.zero_le _,AC _ _⟩
     case round=>
      obtain⟨p,rfl,hpN,hb7⟩:=hrel;have hb47:Below w4.heap.size w4 wr:=hb46.trans (hb7.mono hb46.size);by_cases hp:p<N
      ·have dp:decide ((p:Int)<(N:Int))=true:=by simp;omega
       obtain⟨b,P,hP,hPl⟩:=HPs.out p hp;have HHe1:=AA (HHe.out wr p b P hb47 hP hPl);have HPp:=AA hP;clear hP;go_upto_region 20 with(first
        |(go_at_call 17;refine(HPr.out _ hb47).mono ?_;rintro en w8 ⟨rfl,hw8⟩;replace hw8:=hw8.symm;subst hw8)
        |(go_at_call 23;refine HHe1.out.mono ?_;rintro en w8 ⟨L,v8,rfl,hb8,hown8,hS8,he8⟩;obtain⟨AL,cL,rfl,hRL⟩:=BY hown8)
        |fail)
       obtain⟨nL,hnL⟩:∃nL,L.length=nL:=⟨_,rfl⟩;rw[hnL];have hnL6:nL≤1000000:=by
        have h1:=C7 (P.L.map Sg.vs);rw[←he8,AY,AY]at h1;omega
       have HIn:Hid (∀s∈L,s.vote.signer=(i:Int)→s.vote∈D):=fun s hs hsi=>HAll.out p b P HPp.out s.vote (by
        have:s.vs∈L.map Sg.vs:=List.mem_map_of_mem hs;rw[he8]at this;exact(DB _ _).2 (JN.1 (List.mem_map_of_mem this))) hsi
       have HRL:=AA hRL;have HNL:=AA hnL;have hb68:Below w6.heap.size w6 w8:=hb7.trans (hb8.mono hb7.size);clear hRL hnL hown8 hS8 he8 HHe1 HPp hb7 hb8 hb47;go_wp2
       go_loopw [69] (fun sv wr=>∃t:Nat,sv= .int .i64 (t:Int)∧t≤nL∧Below w8.heap.size w8 wr) (fun sv _=>nL-(intOf sv).toNat)
       case atStart=>exact⟨0,rfl,Nat.zero_le _,AC _ _⟩
       case round=>
        obtain⟨t,rfl,htn,hb9⟩:=hrel;by_cases ht:t<nL
        ·have dt:decide ((t:Int)<(nL:Int))=true:=by simp;omega
         obtain⟨s,hs⟩:∃s,L[t]? =some s:=⟨_,AE (by rw[HNL.out];exact ht)⟩;obtain⟨bL,oL,rfl,hbL,_⟩:=HRL.out.cells (by intro e;have:=AX sgc 23 L (CM L);rw[e,HNL.out]at this;simp at this;omega);have x6:AK wr bL (oL+t*23) 23=some s.cells:=(HRL.out.below hb9).sgRow hs;have hsIn:s.vote.signer=(i:Int)→s.vote∈D:=HIn.out s (AM hs);have HsIn:=AA hsIn;have hsc:s.cells.size=23:=Sg.size_cells s;clear hs hbL hsIn;go_upto_region 22 with(refine AJ rfl 62 (.tmp 11) (.tmp 72) rfl wr.heap.size s.cells rfl rfl 62 BK (Blk.new wr _ _) (by rw[hsc];rfl) (by rw[hsc];exact Cx) (fun u hu=>s.one u hu) ?_;intro w9 hB9 hg9 hsz9)
         have hb89:Below w8.heap.size w8 w9:=(hb9.alloc hb9.size _).grown hg9 (AF hb9.size (by simp)) (fun k hk=>by injection hk with hk;subst hk;exact hb9.size);obtain⟨z,hz⟩:∃z,z=wr.heap.size:=⟨_,rfl⟩;rw[←hz]at hB9 ⊢;obtain⟨vt,hvt⟩:∃vt,vt=s.vote:=⟨_,rfl⟩;rw[←hvt]at HsIn;have hz9:z<w9.heap.size:=hB9.lt;have HZ:Hid (∀V,Below w9.heap.size w9 V→AK V z 0 22=some vt.cells∧V.cell? ⟨z,4,none⟩=some (.int .i64 vt.signer)):=fun V hV=>by
          rw[hvt];exact⟨s.row_vote (hB9.below hV hz9),((hB9.below hV hz9).cell 4).trans (s.cell_vote 4 _ rfl)⟩
         have x7:w9.cell? ⟨z,4,none⟩=some (.int .i64 vt.signer):=(HZ.out _ (AC _ _)).2;have hb69:Below w6.heap.size w6 w9:=hb68.trans (hb89.mono hb68.size);obtain⟨f0,hf0⟩:∃f,f=!(vt.signer==(i:Int)):=⟨_,rfl⟩;have HF0:=AA hf0;have hf1:(vt.signer==(i:Int))=!f0:=by rw[hf0];simp
         clear hB9 hg9 hsz9 x6 hvt hz hsc hb9 hf0;try go_frame
         go_wp2
         go_loopw [12,13] (fun fv kv wr=>∃(k:Nat) (f:Bool),fv= .bool f∧kv= .int .i64 (k:Int)∧k≤nD∧(f=false→vt.signer=(i:Int)∧∀u,u∈D.take k→u≠vt)∧Below w9.heap.size w9 wr) (fun _ kv _=>nD-(intOf kv).toNat)
         case atStart=>exact⟨0,f0,(by rw[HF0.out];rfl),rfl,Nat.zero_le _,fun h=>⟨by rw[HF0.out]at h;simpa using h,fun u hu=>by simp at hu⟩,AC _ _⟩
         case round=>
          obtain⟨k,f,rfl,rfl,hkn,hf,hb10⟩:=hrel;have HF:=AA hf;clear hf x7 hf1;by_cases hk:k<nD
          ·have dk:decide ((k:Int)<(nD:Int))=true:=by simp;omega
           have k0:(0:Int)≤(k:Int):=by omega
           have k2:(k:Int)<(nD:Int):=by omega
           cases f with
           |true=>
            go_wp2;go_roundw
            case rel=>exact⟨t+1,by go_num,by omega,hb89.trans (hb10.mono hb89.size)⟩
            case measure=>simp[intOf];omega
           |false=>
            obtain⟨u,hu⟩:∃u,D[k]? =some u:=⟨_,AE (by rw[HND.out];exact hk)⟩;obtain⟨bD,oD,rfl,hbD,_⟩:=HRD6.out.cells (by intro e;have:=AX vtc 22 D (B6 D);rw[e,HND.out]at this;simp at this;omega);have hx8:AK wr.drew bD (oD+k*22) 22=some u.cells∧AK wr.drew z 0 22=some vt.cells:=⟨(HRD6.out.below (hb69.trans (hb10.mono hb69.size)).drew).voteRow hu,(HZ.out _ hb10.drew).1⟩;have HX8:=AA hx8;obtain⟨r,hr⟩:∃r,r=decide (u=vt):=⟨_,rfl⟩;have eV:∀W,(Op.equalIn 10000 46 (.agg u.cells) (.agg vt.cells)).run Tryz.prog W= .ok r W:=fun W=>by rw[hr];exact OS u vt W
            have HNx:Hid (r=false→∀u',u'∈D.take (k+1)→u'≠vt):=fun h u' hu'=>by
             rw[Ag,hu,BE]at hu';rcases AP.1 hu' with h1|h1
             ·exact(HF.out rfl).2 u' h1
             ·rw[AR.1 h1];rw[hr]at h;exact of_decide_eq_false h
            have hsig:=(HF.out rfl).1;have HSig:=AA hsig;clear hu hbD hx8 hr hsig HF;go_upto_region 26 with fail
            refine rgD (fun V=>AK V bD (oD+k*22) 22=some u.cells∧AK V z 0 22=some vt.cells) (HX8.out) fun hHeld=>?_
            refine tkD 88 0 ?_;go_frame;refine tkD 89 1 ?_;go_frame;refine tkD 90 2 ?_;go_frame;refine tkD 91 3 ?_;go_frame;refine tkD 92 4 ?_;go_frame;refine tkD 93 5 ?_;go_frame;refine tkD 94 6 ?_;go_frame;refine tkD 12 7 ?_;go_frame;refine dnD ?_;go_wp2_with fail
            go_roundw
            case rel=>exact⟨k+1,r,rfl,by go_num,by omega,fun h=>⟨HSig.out,HNx.out h⟩,hb10.drew⟩
            case measure=>simp[intOf];omega
          ·have dk:decide ((k:Int)<(nD:Int))=false:=by simp;omega
           have hft:f=true:=by
            cases f with
            |true=>rfl
            |false=>
             exfalso;obtain⟨h1,h2⟩:=HF.out rfl;refine h2 vt ?_ rfl;rw[AT (by rw[HND.out];omega)];exact HsIn.out h1
           subst hft;go_wp2;go_roundw
           case rel=>exact⟨t+1,by go_num,by omega,hb89.trans (hb10.mono hb89.size)⟩
           case measure=>simp[intOf];omega
        ·have dt:decide ((t:Int)<(nL:Int))=false:=by simp;omega
         go_wp2;go_roundw
         case rel=>exact⟨p+1,by go_num,by omega,hb68.trans (hb9.mono hb68.size)⟩
         case measure=>simp[intOf];omega
      ·have dp:decide ((p:Int)<(N:Int))=false:=by simp;omega
       go_wp2_with (go_at_call 17;refine(HPr.out _ hb47).mono ?_;rintro en w8 ⟨rfl,hw8⟩;replace hw8:=hw8.symm;subst hw8)
       go_roundw
       case rel=>exact⟨i+1,by go_num,by omega,hb47⟩
       case measure=>simp[intOf];omega
  ·have di:decide ((i:Int)<(n:Int))=false:=by simp;omega
   go_wp2_with (go_at_call 13;refine(HAw.out _).mono ?_;rintro en w6 ⟨rfl,hb6⟩)
   go_ret;exact⟨rfl,(hb04.trans (hb.mono hb04.size)).trans (hb6.mono (AF hb04.size hb.size))⟩
end
namespace gameHonest
open Go.ChangeShapes Go.WideShapes Go.ChangeAt Go.RowKit
theorem own:ownKnob Tryz.prog.godebug=none:=by kernel_rfl
theorem laidOut:laidOutB Tryz.prog=true:=by kernel_rfl
theorem lifted(os:Os)(started:os.Started)(H:Type)(enc:TypeId×Value→H):ReturnsInHanded {} Tryz.checked os 7 .any (Rows.gameHonestSpec.pre6 enc Tryz.prog Tryz.f7 Rows.gameHonestRow.domain false) (Rows.gameHonestSpec.post enc Tryz.prog Tryz.f7 false true false false):=by
 refine returnsInHanded_of_change_sized (C:=Tryz.checked) own started (by kernel_rfl) Tryz.func7
  (ChangeSpec.witness6 (enc:=enc) (C:=Tryz.checked) false ⟨#[],#[.agg #[.int .i64 0,.int .i64 0,.int .i64 0,.int .u8 0,.int .u8 0,.int .u8 0,.int .u8 0,.int .u8 0,.int .u8 0,.int .u8 0,.int .u8 0],.slice none 0 0],[]⟩ 8 (by kernel_rfl) (by kernel_rfl) (by kernel_rfl) (by kernel_rfl)) ?_
 intro W base args ds gs before hval0 hW hcnd hsz0 _;have hval:∀(j:Nat) t v,Tryz.f7.params[j]? =some t→args[j]? =some v→Value.okWide Tryz.prog W .any base t v:=hval0;have hW':=hW;obtain⟨p,q,hA0,hV,rfl,hfz,hnd⟩:=hW;have hA:DataW.TrodAll enc Tryz.prog W 0 (fun _=>true) true Tryz.f7.params.toList args.toList ds p:=hA0;have hsz:(DataW.weightsEach Tryz.prog (Tryz.f7.params.toList++Rows.gameHonestSpec.plain.varTypes Tryz.prog) (ds++gs)).all (·≤reachBytes)=true:=hsz0;rw[Tryz.params7]at hA hval hsz;obtain⟨v0,vs0,d0,ds0,p0,q0,hargs,rfl,rfl,h0,r0⟩:=trodAll_cons hA;obtain⟨v1,vs1,d1,ds1,p1,q1,ha1,rfl,rfl,h1,r1⟩:=trodAll_cons r0;subst ha1;obtain⟨rfl,rfl,rfl⟩:=trodAll_nil r1;obtain rfl:args=#[v0,v1]:=by cases args;simp_all
 obtain⟨rfl,rfl⟩:=trodVars_none hV;have hwt:∀k∈DataW.weightsEach Tryz.prog ([26,27]++Rows.gameHonestSpec.plain.varTypes Tryz.prog) ([d0,d1]++[]),k≤reachBytes:=fun k hk=>by simpa using List.all_eq_true.1 hsz k hk
 have k0:=h0;have lt0:∀x∈p0,x.block<W.heap.size:=by obtain⟨m,hm⟩:=k0;exact DataW.trod_lt m _ _ _ hm
 obtain⟨s0,hv0⟩:∃s:Cfg,v0.cells.toList=s.cells.toList:=by
  obtain⟨fuel,hf⟩:=h0;exact JY hf
 obtain⟨cs0,hag0,_⟩:=okWide_struct Tryz.underlying26 (hval 0 26 v0 rfl rfl);obtain rfl:=NB hag0 hv0;clear hag0 hv0;have k1:=h1;have lt1:∀x∈p1,x.block<W.heap.size:=by obtain⟨m,hm⟩:=k1;exact DataW.trod_lt m _ _ _ hm
 obtain⟨A1,l1,cap1,hv1,hr1,hok1,hl1,hm1,_⟩:∃(A:Option Addr) (l:List Stp) (cap:Nat),v1.cells.toList=[.slice A l.length cap]∧Rd W W.heap.size A (l.flatMap stc)∧(∀a∈l,a.vote.ok)∧l.length≤cap∧cap≤maxLen∧l.length*Tryz.prog.bytesOf 48≤reachBytes:=by
  obtain⟨fuel,hf⟩:=h1;exact Hj stc 25 (fun a=>a.vote.ok) Tryz.underlying27 IV (by omega) (fun n cs x h _=>GB h) (fun _=>rfl) hf (Df hwt (j:=1) (t:=27) rfl rfl)
 obtain⟨a1,len1,c1,rfl⟩:=okWide_slice Tryz.underlying27 (hval 1 27 v1 rfl rfl);simp[Value.cells]at hv1;obtain⟨rfl,rfl,rfl⟩:=hv1;clear hA0 hval0;refine(K2 s0 a1 l1.length c1 l1 W rfl hr1 hok1).mono fun e W' ⟨he,bel⟩=>?_
 subst he;exact⟨_,rfl,_,_,_,[],_,[],hW',trodAll_mk1 (shut_bool Tryz.underlying4 _),(trodAll_cons_mk (Below.trod laidOut (by kernel_rfl) (of_decide_eq_true (by kernel_rfl)) k0 bel lt0) (trodAll_cons_mk (Below.trod laidOut (by kernel_rfl) (of_decide_eq_true (by kernel_rfl)) k1 bel lt1) trodAll_mk0)),rfl,bel.frame _,fun h=>by cases h⟩
theorem over:Rows.gameHonestRow.holds Tryz.pinned (OpenSpec.ofChange Rows.gameHonestSpec):=
 OpenClaim.holds_of_wide 7 Tryz.f7 rfl rfl rfl rfl rfl rfl rfl ⟨rfl,rfl,rfl,rfl,rfl⟩ rfl rfl rfl rfl rfl (by kernel_rfl) Tryz.func7 closed
  (of_decide_eq_true (by kernel_rfl)) (by unfold Func.isWrapper;first|(rw[if_pos (by decide+kernel)];kernel_rfl)|(rw[if_neg (by decide+kernel)];exact⟨rfl,rfl⟩))
  (fun os started H enc _=>lifted os started H enc)
theorem proved:Rows.GameHonestSaid:=over
end gameHonest
end Go.Proofs.YtadllffeoibelaaGreat
