/-
 For every configuration, all steps and every mask, meeting twice is meeting once, and processes that met hold the same: the law GameMeets returns true. No condition.
-/
import Derived.Test.YtadllffeoibelaaGreatS1
import Derived.Test.YtadllffeoibelaaGreatS43
import Derived.Test.YtadllffeoibelaaGreatS45
import Derived.Test.YtadllffeoibelaaGreatS50
import Derived.Test.YtadllffeoibelaaGreatS6
import Derived.Test.YtadllffeoibelaaGreatS51
import Derived.ShutString
import Derived.ChangeOld
namespace Go.Proofs.YtadllffeoibelaaGreat
set_option maxRecDepth 100000
set_option maxHeartbeats 32000000
set_option linter.all false
namespace gameMeets
theorem j1:(Rows.gameMeetsRow.wf (OpenSpec.ofChange Rows.gameMeetsSpec))=true:=by kernel_rfl
theorem j2:(laidOutB Tryz.prog)=true:=PI
theorem j3:(mapsRowed Tryz.prog)=true:=PJ
theorem j4:(Tryz.f4.params.all (Tryz.prog.readableRec ·))=true:=by kernel_rfl
theorem j5:(namedTie Tryz.prog Rows.gameMeetsRow.named Rows.gameMeetsSpec.vars)=true:=by kernel_rfl
theorem j6:((Rows.gameMeetsRow.stops==[]))=true:=by kernel_rfl
theorem j7:((Tryz.prog.stops==[]))=true:=by kernel_rfl
theorem j8:((Rows.gameMeetsRow.knobs==[]))=true:=by kernel_rfl
theorem j9:((Tryz.prog.stopKnobs==[]))=true:=by kernel_rfl
theorem j10:((Rows.gameMeetsRow.inPlace==Tryz.prog.inPlace 4))=true:=by kernel_rfl
theorem j11:((Rows.gameMeetsRow.unfollowed==Tryz.prog.unfollowed 4))=true:=by kernel_rfl
theorem j12:((Rows.gameMeetsRow.recurses==Tryz.prog.recurses 4))=true:=by kernel_rfl
theorem j13:((Rows.gameMeetsRow.named==Tryz.prog.varsNamed 4))=true:=by kernel_rfl
theorem j14:((Rows.gameMeetsRow.maps==(Tryz.f4.params.toList++Rows.gameMeetsSpec.plain.varTypes Tryz.prog).any (Tryz.prog.mapsRec ·)))=true:=by kernel_rfl
theorem j15:((Rows.gameMeetsRow.ifaces==(Tryz.f4.params.toList++Rows.gameMeetsSpec.plain.varTypes Tryz.prog).any (Tryz.prog.ifacesRec ·)))=true:=by kernel_rfl
theorem j16:((Rows.gameMeetsRow.mapsOut==Tryz.prog.mapsAmong Tryz.f4.resultTypes.toList))=true:=by kernel_rfl
theorem j17:((Rows.gameMeetsRow.loops==(Tryz.f4.params.toList++Rows.gameMeetsSpec.plain.varTypes Tryz.prog).any (Tryz.prog.loopsFrom ·)))=true:=by kernel_rfl
theorem j18:((Rows.gameMeetsRow.wideKeys==(Tryz.f4.params.toList++Rows.gameMeetsSpec.plain.varTypes Tryz.prog++Tryz.f4.resultTypes.toList).any (Tryz.prog.wideKeysFrom ·)))=true:=by kernel_rfl
theorem j19:(Rows.gameMeetsSpec.vars.all (Tryz.prog.varReadable ·))=true:=by kernel_rfl
theorem j20:(Tryz.f4.resultTypes.all (fun t=>Tryz.prog.readableRec t&&decide (t<Tryz.prog.types.size)))=true:=by kernel_rfl
theorem j21:((Rows.gameMeetsRow.ifacesOut==Tryz.f4.resultTypes.toList.any (Tryz.prog.ifacesRec ·)))=true:=by kernel_rfl
theorem j22:((Rows.gameMeetsRow.loopsOut==Tryz.f4.resultTypes.toList.any (Tryz.prog.loopsFrom ·)))=true:=by kernel_rfl
theorem j23:((Rows.gameMeetsRow.plainKeys==Tryz.prog.plainKeys))=true:=by kernel_rfl
theorem j24:(Rows.gameMeetsRow.shortTexts.isNone)=true:=by kernel_rfl
theorem j25:(Tryz.prog.stopsHeard)=true:=ML
theorem j26:(Tryz.prog.mayEnter)=true:=MI
theorem j27:((Rows.gameMeetsRow.lifted==Tryz.prog.liftsFinal))=true:=MJ
theorem j28:((Tryz.prog.make==some Rows.gameMeetsRow.make))=true:=MK
theorem j29:((Rows.gameMeetsRow.kinds==(if Rows.gameMeetsRow.domain.isEmpty then[]else Tryz.f4.params.toList.map fun t=>match Tryz.prog.underlying t with |some (.int k)=>some k|_=>none)))=true:=by kernel_rfl
theorem j30:((Rows.gameMeetsRow.pinned==Rows.gameMeetsRow.pinnedBy))=true:=by kernel_rfl
theorem j31:((Rows.gameMeetsRow.veiled==(Tryz.f4.params.toList++Rows.gameMeetsSpec.plain.varTypes Tryz.prog++Tryz.f4.resultTypes.toList).any (Tryz.prog.veiledRec ·)))=true:=by kernel_rfl
theorem j32:(Rows.gameMeetsRow.veiledFits Tryz.prog Tryz.f4.params.toList (Tryz.f4.params.toList++Rows.gameMeetsSpec.plain.varTypes Tryz.prog++Tryz.f4.resultTypes.toList))=true:=by kernel_rfl
theorem closed:joinedFacts Tryz.prog 4 Tryz.f4 Rows.gameMeetsSpec Rows.gameMeetsRow=true:=by
 unfold joinedFacts;exact Ax (Ax (Ax (Ax (Ax (Ax (Ax (Ax (Ax (Ax (Ax (Ax (Ax (Ax (Ax (Ax (Ax (Ax (Ax (Ax (Ax (Ax (Ax (Ax (Ax (Ax (Ax (Ax (Ax (Ax (Ax (j1) j2) j3) j4) j5) j6) j7) j8) j9) j10) j11) j12) j13) j14) j15) j16) j17) j18) j19) j20) j21) j22) j23) j24) j25) j26) j27) j28) j29) j30) j31) j32
end gameMeets
section

def MD(idx:List Nat)(G G':GmS):Prop:=∃G1,GA idx idx.length G G1∧C4 G1.ps.length G1 G'
section
variable {idx:List Nat}{G G2 G3:GmS}{i b:Nat}{P P2 P3:PrS}
theorem MD.get(h:MD idx G G2)(hi:G2.ps[i]? =some (b,P2)):∃P,G.ps[i]? =some (b,P)∧((i∈idx∧P2.L.map Sg.vs=CD (P.L.map Sg.vs++(G.all idx).map Sg.vs))∨(¬i∈idx∧P2.L=P.L)):=by
 obtain⟨G1,⟨ps1,rfl,_,h1⟩,hd⟩:=h;obtain⟨P1,hP1,hL⟩:=hd.keep.2.2.2.2 i b P2 hi;obtain⟨P,hP,⟨hm,v,L,rfl,hx⟩|⟨hm,rfl⟩⟩:=h1 i b P1 hP1
 ·rw[AT (AB _)]at hm;exact⟨P,hP,.inl ⟨hm,by rw[hL];exact hx⟩⟩
 ·rw[AT (AB _)]at hm;exact⟨P1,hP,.inr ⟨hm,hL⟩⟩
theorem GmS.all_mem{x:VS}:x∈(G.all idx).map Sg.vs↔∃j∈idx,x∈(G.PL j).map Sg.vs:=by
 unfold GmS.all;rw[List.map_flatMap,List.mem_flatMap]
theorem MD.met(h:MD idx G G2)(hm:i∈idx)(hi:G2.ps[i]? =some (b,P2)):P2.L.map Sg.vs=CD ((G.all idx).map Sg.vs):=by
 obtain⟨P,hP,⟨_,e⟩|⟨hn,_⟩⟩:=h.get hi
 ·rw[e];refine Ih fun x=>⟨fun hx=>?_,fun hx=>BU _ hx⟩
  rcases AP.1 hx with hx|hx
  ·exact GmS.all_mem.2 ⟨i,hm,by rw[GmS.PL_of hP];exact hx⟩
  ·exact hx
 ·exact absurd hm hn
theorem MD.twice(h:MD idx G G2)(h':MD idx G2 G3)(hi:G3.ps[i]? =some (b,P3)):∃P2,G2.ps[i]? =some (b,P2)∧P3.L.map Sg.vs=P2.L.map Sg.vs:=by
 obtain⟨P2,hP2,⟨hm,_⟩|⟨_,e⟩⟩:=h'.get hi
 ·refine⟨P2,hP2,?_⟩;have e2:=h.met hm hP2;rw[h'.met hm hi,e2,←Hg ((G.all idx).map Sg.vs)];refine Ih fun x=>⟨fun hx=>?_,fun hx=>GmS.all_mem.2 ⟨i,hm,by rw[GmS.PL_of hP2,e2];exact hx⟩⟩
  obtain⟨j,hj,hx⟩:=GmS.all_mem.1 hx;rcases hq:G2.ps[j]? with _|⟨b',Q⟩
  ·have e0:G2.PL j=[]:=by
    unfold GmS.PL;rw[List.getD_eq_getElem?_getD,AU,hq];rfl
   rw[e0]at hx;cases hx
  ·rw[GmS.PL_of hq,h.met hj hq]at hx;exact hx
 ·exact⟨P2,hP2,by rw[e]⟩
end
end
section
open Go.RowKit
attribute [local go_sem ↓] Go.wp_at_zero Go.wp_at_succ An Au Av Aw IT IU
attribute [local go_sem] BD BH BI BJ Kq Kr AN AW AQ
theorem PG:(Tryz.prog.info? 50).map (fun i=>(i.zero,i.size,i.bytes))=some (some (.slice none 0 0),1,24):=by kernel_rfl
theorem Gp{w w':World}{base e size n:Nat}{v:Value}{xs:List Value}(h:w.ownsRow base e size v n xs)(hk:CR w w')(he:e≠97):w'.ownsRow base e size v n xs:=by
 refine⟨h.1,?_⟩;rcases h.2 with⟨h1,h2⟩|⟨g,cap,cur,rfl,h1,h2,h3,h4,h5,h6⟩
 ·exact .inl ⟨h1,h2⟩
 ·exact .inr ⟨g,cap,cur,rfl,h1,hk _ _ _ he h2,h3,h4,h5,h6⟩
def GF(B0:Nat)(G:GmS)(w:World)(v:Value)(p:Nat):Prop:=∃ws:List Value,w.ownsRow B0 50 1 v p ws∧∀i,i<p→∃(b:Nat) (P:PrS) (L:List Sg) (A:Option Addr) (c:Nat),G.ps[i]? =some (b,P)∧ws[i]? =some (.slice A L.length c)∧w.ownsRow B0 62 23 (.slice A L.length c) L.length (L.flatMap sgc)∧(∀s∈L,Bj w B0 s)∧L.map Sg.vs=CD (P.L.map Sg.vs)
theorem GF.keepP{B0 p:Nat}{G:GmS}{w w':World}{v:Value}(h:GF B0 G w v p)(hk:CR w w'):GF B0 G w' v p:=by
 obtain⟨ws,h1,h2⟩:=h;refine⟨ws,Gp h1 hk (by decide),fun i hi=>?_⟩;obtain⟨b,P,L,A,c,a1,a2,a3,a4,a5⟩:=h2 i hi;exact⟨b,P,L,A,c,a1,a2,Gp a3 hk (by decide),fun s hs=>⟨(a4 s hs).1,Gp (a4 s hs).2.1 hk (by decide),(a4 s hs).2.2⟩,a5⟩
theorem GF.snoc{B0 p b c:Nat}{G:GmS}{w w':World}{v v':Value}{P:PrS}{L:List Sg}{A:Option Addr}{ws:List Value}(h:w.ownsRow B0 50 1 v p ws)(h2:∀i,i<p→∃(b:Nat) (P:PrS) (L:List Sg) (A:Option Addr) (c:Nat),G.ps[i]? =some (b,P)∧ws[i]? =some (.slice A L.length c)∧w.ownsRow B0 62 23 (.slice A L.length c) L.length (L.flatMap sgc)∧(∀s∈L,Bj w B0 s)∧L.map Sg.vs=CD (P.L.map Sg.vs))(hP:G.ps[p]? =some (b,P))(hL:w.ownsRow B0 62 23 (.slice A L.length c) L.length (L.flatMap sgc))(hS:∀s∈L,Bj w B0 s)(he:L.map Sg.vs=CD (P.L.map Sg.vs))(h':w'.ownsRow B0 50 1 v' (p+1) (ws++[.slice A L.length c]))(hg:w.grownBy w' v.ownBlock):GF B0 G w' v' (p+1):=by
 have hl:ws.length=p:=by have:=h.1;omega
 have far:∀{e m n:Nat} {u:Value} {xs:List Value},e≠50→w.ownsRow B0 e m u n xs→w'.ownsRow B0 e m u n xs:=fun hne h0=>RG h0 h hne hg
 have farS:∀{s:Sg},Bj w B0 s→Bj w' B0 s:=fun hs=>⟨hs.1,far (by decide) hs.2.1,hs.2.2⟩
 refine⟨_,h',fun i hi=>?_⟩;rcases Nat.lt_or_ge i p with h0|h0
 ·obtain⟨b,P,L,A,c,a1,a2,a3,a4,a5⟩:=h2 i h0;exact⟨b,P,L,A,c,a1,by rw[List.getElem?_append_left (by omega)];exact a2,far (by decide) a3,fun s hs=>farS (a4 s hs),a5⟩
 ·have e:i=p:=by omega
  subst e;exact⟨b,P,L,A,c,hP,by rw[List.getElem?_append_right (by omega),hl,Nat.sub_self];rfl,far (by decide) hL,fun s hs=>farS (hS s hs),he⟩
theorem MG{w:World}{b b':Nat}{s:Sg}(h:Bj w b s)(hb:b'≤b):Bj w b' s:=⟨h.1,BF h.2.1 hb,h.2.2⟩
theorem PH{L L':List Sg}(h:L.map Sg.vs=L'.map Sg.vs):L.length=L'.length:=by
 have:=congrArg List.length h;rwa[AY,AY]at this
theorem MH(C:Cfg)(A:Option Addr)(k c:Nat)(l:List Stp)(M:Int)(w:World)(hk:l.length=k)(hr:Rd w w.heap.size A (l.flatMap stc))(hok:∀s∈l,s.vote.ok):Calls Tryz.prog 4 #[C.val,.slice A k c,.int .i64 M] w fun e w'=>e= .returned (.bool true)∧Below w.heap.size w w':=by
 obtain⟨w1,hw1⟩:∃w1,w1=w.alloc (.cells C.cells 26):=⟨_,rfl⟩;have hb1:Below w.heap.size w w1:=by rw[hw1];exact(AC _ _).alloc (AB _) _
 obtain⟨q,hq⟩:∃q,q=w.heap.size:=⟨_,rfl⟩;have hQ1:Blk w1 q 26 C.cells:=by rw[hw1,hq];exact Blk.new w _ _
 have x1:AK w1 q 0 11=some C.cells:=hQ1.row 11 rfl;obtain⟨d0,hd0⟩:∃d,d=decide (k≤60):=⟨_,rfl⟩;obtain⟨d1,hd1⟩:∃d,d=decide (1≤C.n∧C.n≤7):=⟨_,rfl⟩;have HFew:Hid (∀W,Calls Tryz.prog 11 #[.slice A k c] W fun e w'=>e= .returned (.bool d0)∧w'=W):=fun W=>by rw[hd0];exact Ku A k c W
 have HVal:Hid (∀W,Calls Tryz.prog 12 #[C.val] W fun e w'=>e= .returned (.bool d1)∧Below W.heap.size W w'):=fun W=>by rw[hd1];exact FM C W
 have HAw:=AA FN;have HPlay:Hid (d0=true→d1=true→∀V,Below w.heap.size w V→Calls Tryz.prog 14 #[C.val,.slice A k c] V fun e w'=>∃g G Bs n,e= .returned (Am g)∧Below V.heap.size V w'∧V.heap.size≤Bs∧Bs≤w'.heap.size∧A9 Bs w' g G∧PlI n C.T C.L C.seed 60 G∧C.n=(n:Int)∧n≤7):=fun e0 e1 V hV=>by
  rw[hd0]at e0;rw[hd1]at e1;have e0:=of_decide_eq_true e0;have e1:=of_decide_eq_true e1;obtain⟨n,hn⟩:∃n:Nat,C.n=(n:Int):=⟨C.n.toNat,by omega⟩;have hC:C=Cfg.mk (n:Int) C.T C.L C.seed:=by rw[←hn]
  rw[show C.val=(Cfg.mk (n:Int) C.T C.L C.seed).val by rw[←hC]];exact(JR n (by omega) C.T C.L C.seed A k c l V hk e0 ((hr.below hV).more hV.size) hok).mono fun e w' ⟨g,G,Bs,a1,a2,a3,a4,a5,a6⟩=>⟨g,G,Bs,n,a1,a2,a3,a4,a5,a6,hn,by omega⟩
 have HW1:=AA hw1;have HQ:=AA hq;clear hw1 hq hQ1 hd0 hd1 hr hok hk;go_enter Tryz.func4,Tryz.ntmps4;go_upto_region 1 with fail
 simp only[←HW1.out,←HQ.out];have hsw:=hb1.size;cases d0 with
 |false=>
  clear HPlay HVal;go_wp2_with (first
   |(go_at_call 11;refine(HFew.out _).mono ?_;rintro en w2 ⟨rfl,hw2⟩;replace hw2:=hw2.symm;subst hw2)
   |(go_at_call 13;refine(HAw.out _).mono ?_;rintro en w3 ⟨rfl,hb3⟩)
   |fail)
  go_ret;exact⟨rfl,hb1.trans (hb3.mono hsw)⟩
 |true=>
 cases d1 with
 |false=>
  clear HPlay;go_wp2_with (first
   |(go_at_call 11;refine(HFew.out _).mono ?_;rintro en w2 ⟨rfl,hw2⟩;replace hw2:=hw2.symm;subst hw2)
   |(go_at_call 12;refine(HVal.out _).mono ?_;rintro en w3 ⟨rfl,hb3⟩)
   |(go_at_call 13;refine(HAw.out _).mono ?_;rintro en w4 ⟨rfl,hb4⟩)
   |fail)
  go_ret;exact⟨rfl,(hb1.trans (hb3.mono hsw)).trans (hb4.mono (AF hsw hb3.size))⟩
 |true=>
 go_upto_region 3 with(first
  |(go_at_call 11;refine(HFew.out _).mono ?_;rintro en w2 ⟨rfl,hw2⟩;replace hw2:=hw2.symm;subst hw2)
  |(go_at_call 12;refine(HVal.out _).mono ?_;rintro en w3 ⟨rfl,hb3⟩)
  |fail)
 have hb03:Below w.heap.size w w3:=hb1.trans (hb3.mono hsw);have hq3:q<w3.heap.size:=by
  have h1:q<w1.heap.size:=by rw[HW1.out,HQ.out];simp
  exact Nat.lt_of_lt_of_le h1 hb3.size
 have x3:AK w3 q 0 11=some C.cells:=Ay x1 hb3 (by rw[HW1.out,HQ.out];simp);have HPl:=AA (HPlay.out (by trivial) (by trivial) w3 hb03);clear HPlay HFew HVal x1;go_upto_region 4 with(go_at_call 14;refine HPl.out.mono ?_;rintro en w4 ⟨g,G,Bs,n,rfl,hb4,hB3,hB4,hG4,hI4,hCn,hn7⟩)
 have hb04:Below w.heap.size w w4:=hb03.trans (hb4.mono hb03.size);have hwB:w.heap.size≤Bs:=AF hb03.size hB3;obtain⟨T4,hT4⟩:∃T,T=60:=⟨_,rfl⟩;rw[←hT4]at hI4;have hT4':T4≤60:=by omega
 have HDo1:Hid (Calls Tryz.prog 22 #[Am g,.agg #[.int .i64 2,.int .i64 0,.int .i64 M,.int .i64 0,.int .i64 0,.int .i64 0,.int .i64 0,.int .i64 0,.int .i64 0,.int .u8 0,.int .u8 0,.int .u8 0,.int .u8 0,.int .u8 0,.int .u8 0,.int .u8 0,.int .u8 0,.int .u8 0,.int .u8 0,.int .u8 0,.int .u8 0,.int .u8 0,.int .u8 0,.int .u8 0,.int .u8 0]] w4 fun e w'=>(∃x:Int,e= .returned (.int .i64 x))∧Below Bs w4 w'∧∃G',A9 Bs w' g G'∧PlI n C.T C.L C.seed (T4+1) G'∧MD (Cj M G.ps.length) G G'):=by
  refine(Qv (Stp.mk 2 0 M ⟨0,0,0,0,0,0,Nm.zero,Nm.zero⟩) (by simp[Vt.ok]) hG4 hB4 hI4 (by omega)).mono ?_;rintro e w' ⟨a1,a2,_,G',a3,a4,a5⟩;obtain⟨G1,a6,a7⟩:=a5 rfl;exact⟨a1,a2,G',a3,a4,G1,a6,a7⟩
 clear hG4 hI4 HPl x3 hb4;go_upto_region 7 with(go_at_call 22;refine HDo1.out.mono ?_;rintro en w5 ⟨⟨ev,rfl⟩,hb5,G5,hG5,hI5,hM5⟩)
 have hb05:Below w.heap.size w w5:=hb04.trans (hb5.mono hwB);have hB5:Bs≤w5.heap.size:=AF hB4 hb5.size;obtain⟨N,hN⟩:∃N,N=G5.ps.length:=⟨_,rfl⟩;have hNG:N=G.ps.length:=by
  obtain⟨G1,⟨ps1,rfl,e1,_⟩,hd⟩:=hM5;rw[hN,hd.keep.1];exact e1
 have hN20:N≤20:=by have:=hI5.inv.psn;have:=hI5.inv.n1;omega
 obtain⟨idx,hidx⟩:∃idx,idx=Cj M N:=⟨_,rfl⟩;rw[←hNG,←hidx]at hM5;have hsz5:∀(i b:Nat) (P:PrS),G5.ps[i]? =some (b,P)→P.L.length≤1000000:=fun i b P hi=>by have:=hI5.inv.len hi;omega
 have HPr5:Hid (∀V,Below w5.heap.size w5 V→Calls Tryz.prog 17 #[Am g] V fun e w'=>e= .returned (.int .i64 (N:Int))∧w'=V):=fun V hV=>by rw[hN];exact CK (hG5.below hV)
 have HHe5:Hid (∀V (p b:Nat) (P:PrS),Below w5.heap.size w5 V→G5.ps[p]? =some (b,P)→Calls Tryz.prog 23 #[Am g,.int .i64 (p:Int)] V (FC V (P.L.map Sg.vs))):=fun V p b P hV hp=>JV (hG5.below hV) hp (hsz5 p b P hp)
 have HG5:=AA hG5;have HI5:=AA hI5;have HM5:=AA hM5;have HN:=AA hN;have HIx:=AA hidx;clear hG5 hI5 hM5 hN hNG hidx hsz5 HDo1 hb5 hb04;go_wp2
 go_loopw [8,9] (fun v iv wr=>∃p:Nat,iv= .int .i64 (p:Int)∧p≤N∧GF w5.heap.size G5 wr v p∧Below w5.heap.size w5 wr) (fun _ iv _=>N-(intOf iv).toNat)
 case atStart=>exact⟨0,rfl,Nat.zero_le _,⟨[],⟨by simp,.inl ⟨rfl,rfl⟩⟩,fun i hi=>absurd hi (Nat.not_lt_zero _)⟩,AC _ _⟩
 case round=>
  obtain⟨p,rfl,hpN,hW,hb⟩:=hrel;have HW:=AA hW;clear hW;by_cases hp:p<N
  ·have dp:decide ((p:Int)<(N:Int))=true:=by simp;omega
   obtain⟨⟨b,P⟩,hP⟩:∃x,G5.ps[p]? =some x:=⟨_,AE (by rw[←HN.out];exact hp)⟩;have HHe:=AA (HHe5.out wr p b P hb hP);have HP:=AA hP;obtain⟨ws,hws,hwi⟩:=HW.out;have HWs:=AA hws;have HWi:=AA hwi;clear hP hws hwi HW;go_wp2_with (first
    |(go_at_call 17;refine(HPr5.out _ hb).mono ?_;rintro en w6 ⟨rfl,hw6⟩;replace hw6:=hw6.symm;subst hw6)
    |(go_at_call 23;refine HHe.out.mono ?_;rintro en w7 ⟨L,v7,rfl,hb7,hown7,hS7,he7⟩;obtain⟨A7,c7,rfl⟩:=Ar hown7;have HO7:=AA hown7;have HS7:=AA hS7;have HE7:=AA he7;clear hown7 hS7 he7)
    |(at_builtin;refine Aq rfl (.tmp 36) (.tmp 40) _ rfl w5.heap.size 50 (.slice none 0 0) 1 24 Tryz.underlying49 PG rfl (by decide) u8 p ws rfl ?r0 (w7.heap.size+1) (some ⟨w7.heap.size,0,none⟩) 1 1 [.slice A7 L.length c7] rfl rfl ?r1 ?r2 ?r3 ?r4 ?r5 ?_))
   case r0=>exact(BA HWs.out hb7 (AB _)).alloc _
   case r1=>exact Rd.mk (by omega) (fun j u hu=>by rw[Nat.zero_add,(Blk.new w7 _ _).cell];simpa using hu)
   case r2=>intro u hu;simp at hu;subst hu;rfl
   case r3=>omega
   case r4=>unfold maxLen;omega
   case r5=>have:=hb.size;have:=hb7.size;simp;omega
   intro v8 w8 hown8 hg8 hat8;have hbw7:Below w5.heap.size w5 w7:=hb.trans (hb7.mono hb.size);have hO7a:=(BA HWs.out hb7 (AB _)).alloc (.cells #[.slice A7 L.length c7] 50);have hb8:=BL (hbw7.alloc hbw7.size _) hO7a hg8;have HW8:Hid (GF w5.heap.size G5 w8 v8 (p+1)):=by
    refine GF.snoc hO7a (fun i hi=>?_) HP.out ((BF HO7.out hb.size).alloc _) (fun s hs=>(MG (HS7.out s hs) hb.size).alloc _) HE7.out (by simpa using hown8) hg8;obtain⟨b,P,L,A,c,a1,a2,a3,a4,a5⟩:=HWi.out i hi;exact⟨b,P,L,A,c,a1,a2,(BA a3 hb7 (AB _)).alloc _,fun s hs=>((a4 s hs).below hb7 (AB _)).alloc _,a5⟩
   clear hown8 hg8 hat8 hO7a;go_wp2;go_roundw
   case rel=>exact⟨p+1,by go_num,by omega,HW8.out,hb8⟩
   case measure=>simp[intOf];omega
  ·have dp:decide ((p:Int)<(N:Int))=false:=by simp;omega
   have e:p=N:=by omega
   have hBr:Bs≤wr.heap.size:=AF hB5 hb.size;have HW9:Hid (GF w5.heap.size G5 wr u8 N):=by rw[←e];exact HW.out
   clear HW e;have HDo2:Hid (Calls Tryz.prog 22 #[Am g,.agg #[.int .i64 2,.int .i64 0,.int .i64 M,.int .i64 0,.int .i64 0,.int .i64 0,.int .i64 0,.int .i64 0,.int .i64 0,.int .u8 0,.int .u8 0,.int .u8 0,.int .u8 0,.int .u8 0,.int .u8 0,.int .u8 0,.int .u8 0,.int .u8 0,.int .u8 0,.int .u8 0,.int .u8 0,.int .u8 0,.int .u8 0,.int .u8 0,.int .u8 0]] wr fun e w'=>(∃x:Int,e= .returned (.int .i64 x))∧Below Bs wr w'∧CR wr w'∧∃G',A9 Bs w' g G'∧PlI n C.T C.L C.seed (T4+2) G'∧MD idx G5 G'):=by
    refine(Qv (Stp.mk 2 0 M ⟨0,0,0,0,0,0,Nm.zero,Nm.zero⟩) (by simp[Vt.ok]) (HG5.out.below hb) hBr HI5.out (by omega)).mono ?_;rintro e w' ⟨a1,a2,aK,G',a3,a4,a5⟩;obtain⟨G1,a6,a7⟩:=a5 rfl;rw[←HN.out,show Cj (Stp.mk 2 0 M ⟨0,0,0,0,0,0,Nm.zero,Nm.zero⟩).procs N=idx from HIx.out.symm]at a6;exact⟨a1,a2,aK rfl,G',a3,a4,G1,a6,a7⟩
   go_upto_region 13 with(first
    |(go_at_call 17;refine(HPr5.out _ hb).mono ?_;rintro en w6 ⟨rfl,hw6⟩;replace hw6:=hw6.symm;subst hw6)
    |(go_at_call 22;refine HDo2.out.mono ?_;rintro en w7 ⟨⟨ev2,rfl⟩,hb7,hK7,G7,hG7,hI7,hM7⟩)
    |fail)
   have hb07:Below w.heap.size w w7:=(hb05.trans (hb.mono (AF hwB hB5))).trans (hb7.mono hwB);have hwi:=HW9.out.keepP hK7;obtain⟨ws,hws,hwi⟩:=hwi;have hN7:N=G7.ps.length:=by
    obtain⟨G1,⟨ps1,rfl,e1,_⟩,hd⟩:=hM7;rw[hd.keep.1];exact HN.out.trans e1.symm
   have hsz7:∀(i b:Nat) (P:PrS),G7.ps[i]? =some (b,P)→P.L.length≤1000000:=fun i b P hi=>by have:=hI7.inv.len hi;omega
   have HPr7:Hid (∀V,Below w7.heap.size w7 V→Calls Tryz.prog 17 #[Am g] V fun e w'=>e= .returned (.int .i64 (N:Int))∧w'=V):=fun V hV=>by rw[hN7];exact CK (hG7.below hV)
   --what is held now is what was held
   have HHe7:Hid (∀V (p:Nat),Below w7.heap.size w7 V→p<N→∃LS:List VS,Calls Tryz.prog 23 #[Am g,.int .i64 (p:Int)] V (FC V LS)∧∃(L:List Sg) (A:Option Addr) (c:Nat),ws[p]? =some (.slice A L.length c)∧w7.ownsRow w5.heap.size 62 23 (.slice A L.length c) L.length (L.flatMap sgc)∧(∀s∈L,Bj w7 w5.heap.size s)∧L.map Sg.vs=CD LS∧L.length≤1000000):=fun V p hV hp=>by
    obtain⟨⟨b,P⟩,hP⟩:∃x,G7.ps[p]? =some x:=⟨_,AE (by rw[←hN7];exact hp)⟩;obtain⟨b5,P5,L,A,c,a1,a2,a3,a4,a5⟩:=hwi p hp;obtain⟨P2,e1,e2⟩:=HM5.out.twice hM7 hP;rw[a1]at e1;injection e1 with e1
    injection e1 with _ e1
    subst e1;refine⟨_,JV (hG7.below hV) hP (hsz7 p b P hP),L,A,c,a2,a3,a4,by rw[a5,e2],?_⟩;have h1:=C7 (P5.L.map Sg.vs);rw[←a5,AY,AY]at h1;have:=HI5.out.inv.len a1;omega
   have HLike:Hid (∀p p',p<N→p'<N→inM M p=true→inM M p'=true→∃(L L':List Sg) (A A':Option Addr) (c c':Nat),ws[p]? =some (.slice A L.length c)∧ws[p']? =some (.slice A' L'.length c')∧w7.ownsRow w5.heap.size 62 23 (.slice A L.length c) L.length (L.flatMap sgc)∧w7.ownsRow w5.heap.size 62 23 (.slice A' L'.length c') L'.length (L'.flatMap sgc)∧(∀s∈L,Bj w7 w5.heap.size s)∧(∀s∈L',Bj w7 w5.heap.size s)∧L.map Sg.vs=L'.map Sg.vs∧L.length≤1000000):=fun p p' hp hp' hm hm'=>by
    obtain⟨b5,P5,L,A,c,a1,a2,a3,a4,a5⟩:=hwi p hp;obtain⟨b6,P6,L',A',c',f1,f2,f3,f4,f5⟩:=hwi p' hp';refine⟨L,L',A,A',c,c',a2,f2,a3,f3,a4,f4,?_,?_⟩
    ·rw[a5,f5,HM5.out.met (by rw[HIx.out];exact Gh.2 ⟨hp,hm⟩) a1,HM5.out.met (by rw[HIx.out];exact Gh.2 ⟨hp',hm'⟩) f1]
    ·have h1:=C7 (P5.L.map Sg.vs);rw[←a5,AY,AY]at h1;have:=HI5.out.inv.len a1;omega
   obtain⟨wb,cw,hwb,hWc⟩:∃(wb:Option Addr) (cw:Nat),u8= .slice wb N cw∧∀(V:World) (p:Nat) (u:Value),Below w7.heap.size w7 V→ws[p]? =some u→∃ab,wb=some ⟨ab,0,none⟩∧V.cell? ⟨ab,p,none⟩=some u:=by
    obtain⟨wb,cw,e⟩:=Ar hws;refine⟨wb,cw,e,fun V p u hV hu=>?_⟩;obtain⟨ab,ac,e2,hc,_,_⟩:=CF (BA hws hV (AB _)) hu;rw[e]at e2;injection e2 with e2 _ _
    exact⟨ab,e2,hc⟩
   subst hwb;have HWc:=AA hWc;clear hWc hws hwi hG7 hI7 hM7 hK7 hN7 hsz7 HW9 HG5 HI5 HM5 HPr5 HHe5 HDo2 hb7 hb;go_wp2
   go_loopw [10,11] (fun fv iv wr=>∃(p:Nat) (f:Int),fv= .int .i64 f∧iv= .int .i64 (p:Int)∧p≤N∧(f= -1∨∃f0:Nat,f=(f0:Int)∧f0<N∧inM M f0=true)∧Below w7.heap.size w7 wr) (fun _ iv _=>N-(intOf iv).toNat)
   case atStart=>exact⟨0,-1,rfl,rfl,Nat.zero_le _,.inl rfl,AC _ _⟩
   case round=>
    obtain⟨p,f,rfl,rfl,hpN,hf,hb⟩:=hrel;have HF:=AA hf;clear hf;by_cases hp:p<N
    ·have dp:decide ((p:Int)<(N:Int))=true:=by simp;omega
     have p0:(0:Int)≤(p:Int):=by omega
     have p1:(p:Int)<(N:Int):=by omega
     obtain⟨LS,hHe,L,AL,cL,a1,a2,a3,a4,a5⟩:=HHe7.out wr.drew p hb.drew hp;obtain⟨ab,rfl,hc⟩:=HWc.out wr p _ hb a1;have HHe:=AA hHe;have HA:=AA (And.intro a2 (And.intro a3 a4));have HX:Hid (∀V,Below wr.heap.size wr V→V.cell? ⟨ab,p,none⟩=some (.slice AL L.length cL)):=fun V hV=>by
      obtain⟨ab',e,h⟩:=HWc.out V p _ (hb.trans (hV.mono hb.size)) a1;injection e with e
      injection e with e
      rw[e];exact h
     have HC:=AA hc;obtain⟨m,hm⟩:∃m,m=L.length:=⟨_,rfl⟩;rw[←hm]at HX a5;have HMl:=AA hm;clear hHe a1 a2 a3 a4 hc hm;go_upto_region 17 with(go_at_call 17;refine(HPr7.out _ hb).mono ?_;rintro en w8 ⟨rfl,hw8⟩;replace hw8:=hw8.symm;subst hw8)
     refine rgD (fun V=>V.cell? ⟨ab,p,none⟩=some (.slice AL m cL)) (HX.out _ (AC wr.heap.size wr).drew) fun hHeld=>?_
     refine tkD 52 0 ?_;go_frame;refine tkD 53 1 ?_;go_frame;refine tkD 55 3 ?_;go_frame;refine tkD 56 4 ?_;go_frame;refine tkD 57 5 ?_;go_frame;refine tkD 58 6 ?_;go_frame;refine rd1 2 fun K hK=>?_
     go_simp;refine HHe.out.mono ?_;rintro en w8 ⟨L8,v8,rfl,hb8,hown8,hS8,he8⟩;obtain⟨A8,c8,rfl⟩:=Ar hown8;have hL8:L8.length=m:=(by rw[HMl.out];exact PH (he8.trans HA.out.2.2.symm));rw[hL8];have hb8':Below wr.heap.size wr w8:=((AC wr.heap.size wr).drew).trans (hb8.mono (Below.size (AC wr.heap.size wr).drew));have HEq:=AA (KF A8 AL c8 cL m L8 L w8 hL8 HMl.out.symm (Rd.of_own hown8) (Rd.of_own (BA HA.out.1 (hb.trans (hb8'.mono hb.size)) (AB _))) (fun s hs=>(hS8 s hs).ok) (fun s hs=>((HA.out.2.1 s hs).below (hb.trans (hb8'.mono hb.size)) (AB _)).ok) (he8.trans HA.out.2.2.symm) a5);clear hown8 hS8 he8 hL8;go_wp2_with fail
     refine hK.out _ _ (HX.out _ hb8') (fun hHeld=>?_);clear hK K;try go_frame
     refine rd1 7 fun K hK=>?_
     go_simp;refine HEq.out.mono ?_;rintro en w9 ⟨rfl,hb9⟩;have hb89:Below wr.heap.size wr w9:=hb8'.trans (hb9.mono hb8'.size);go_wp2_with fail
     refine hK.out _ _ (HX.out _ hb89) (fun hHeld=>?_);clear hK K;try go_frame
     refine tkD 60 8 ?_;go_frame;refine dnD ?_;have hbw9:Below w7.heap.size w7 w9:=hb.trans (hb89.mono hb.size);clear HHe HA HX HC HMl a5 HEq hb8' hb8;obtain⟨d,hd⟩:∃d,d=inM M p:=⟨_,rfl⟩;have hbit:(bits .and .i64 (M/2^p) 1==0)=!d:=by
      have e:(2:Int)^p=((2^p:Nat):Int):=by simp
      rw[e,PR,hd];unfold inM;rcases(by omega:M/((2^p:Nat):Int)%2=0∨M/((2^p:Nat):Int)%2=1)with h|h <;> rw[h] <;> rfl
     have hwp:IntKind.u64.wrap (p:Int)=(p:Int):=by rw[IntKind.wrap_u64];omega
     have HD:=AA hd;clear hd;cases d with
     |false=>
      go_wp2;go_roundw
      case rel=>exact⟨p+1,f,rfl,by go_num,by omega,HF.out,hbw9⟩
      case measure=>simp[intOf];omega
     |true=>
      go_upto_region 20 with fail
      by_cases hf:f= -1
      ·subst hf;clear HF;refine rgD (fun _=>True) (trivial) fun hHeld=>?_
       refine tkD 67 0 ?_;go_frame;refine tkD 68 1 ?_;go_frame;refine tkD 69 2 ?_;go_frame;refine skD 70 3 ?_;go_frame;refine skD 71 4 ?_;go_frame;refine skD 72 5 ?_;go_frame;refine skD 73 6 ?_;go_frame;refine skD 74 7 ?_;go_frame;refine skD 75 8 ?_;go_frame;refine skD 76 9 ?_;go_frame;refine skD 77 10 ?_;go_frame;refine skD 78 11 ?_;go_frame;refine skD 79 12 ?_;go_frame;refine tkD 80 13 ?_;go_frame;refine dnD ?_;go_wp2_with fail
       go_roundw
       case rel=>exact⟨p+1,(p:Int),rfl,by go_num,by omega,.inr ⟨p,rfl,hp,HD.out.symm⟩,hbw9.drew⟩
       case measure=>simp[intOf];omega
      ·obtain⟨f0,rfl,hf0,hmf⟩:∃f0:Nat,f=(f0:Int)∧f0<N∧inM M f0=true:=by
        rcases HF.out with h|h
        ·exact absurd h hf
        ·exact h
       obtain⟨L1,L2,A1,A2,c1,c2,b1,b2,b3,b4,b5,b6,b7,b8⟩:=HLike.out f0 p hf0 hp hmf HD.out.symm;obtain⟨m2,hm2⟩:∃m,m=L1.length:=⟨_,rfl⟩;have hm3:L2.length=m2:=by rw[hm2];exact(PH b7).symm
       rw[hm3]at b2;rw[←hm2]at b1 b8;have HX2:Hid (∀V,Below w9.heap.size w9 V→V.cell? ⟨ab,f0,none⟩=some (.slice A1 m2 c1)∧V.cell? ⟨ab,p,none⟩=some (.slice A2 m2 c2)):=fun V hV=>by
        obtain⟨x1,e1,h1⟩:=HWc.out V f0 _ (hbw9.trans (hV.mono hbw9.size)) b1;obtain⟨x2,e2,h2⟩:=HWc.out V p _ (hbw9.trans (hV.mono hbw9.size)) b2;injection e1 with e1
        injection e1 with e1
        injection e2 with e2
        injection e2 with e2
        rw[←e1]at h1;rw[←e2]at h2;exact⟨h1,h2⟩
       have hbd:=hbw9.drew;have HEq:=AA (KF A1 A2 c1 c2 m2 L1 L2 w9.drew hm2.symm hm3 (Rd.of_own (BA b3 hbd (AB _))) (Rd.of_own (BA b4 hbd (AB _))) (fun s hs=>((b5 s hs).below hbd (AB _)).ok) (fun s hs=>((b6 s hs).below hbd (AB _)).ok) b7 b8);have f1:(0:Int)≤(f0:Int):=by omega
       have f2:(f0:Int)<(N:Int):=by omega
       have f3:decide ((0:Int)≤(f0:Int))=true:=by simp
       clear HF hf b1 b2 b3 b4 b5 b6 b7 b8 hm2 hm3 hbd;refine rgD (fun V=>V.cell? ⟨ab,f0,none⟩=some (.slice A1 m2 c1)∧V.cell? ⟨ab,p,none⟩=some (.slice A2 m2 c2)) (HX2.out _ (AC w9.heap.size w9).drew) fun hHeld=>?_
       refine tkD 67 0 ?_;go_frame;refine tkD 68 1 ?_;go_frame;refine tkD 69 2 ?_;go_frame;refine tkD 70 3 ?_;go_frame;refine tkD 71 4 ?_;go_frame;refine tkD 72 5 ?_;go_frame;refine tkD 73 6 ?_;go_frame;refine tkD 74 7 ?_;go_frame;refine tkD 75 8 ?_;go_frame;refine tkD 76 9 ?_;go_frame;refine tkD 77 10 ?_;go_frame;refine rd1 11 fun K hK=>?_
       go_simp;refine HEq.out.mono ?_;rintro en w10 ⟨rfl,hb10⟩;have hb10:Below w9.heap.size w9 w10:=(AC w9.heap.size w9).drew.trans hb10;go_wp2_with fail
       refine hK.out _ _ (HX2.out _ hb10) (fun hHeld=>?_);clear hK K;try go_frame
       refine tkD 79 12 ?_;go_frame;refine tkD 80 13 ?_;go_frame;refine dnD ?_;have hb7a:Below w7.heap.size w7 w10:=hbw9.trans (hb10.mono hbw9.size);go_wp2_with fail
       go_roundw
       case rel=>exact⟨p+1,(p:Int),rfl,by go_num,by omega,.inr ⟨p,rfl,hp,HD.out.symm⟩,hb7a⟩
       case measure=>simp[intOf];omega
    ·have dp:decide ((p:Int)<(N:Int))=false:=by simp;omega
     go_wp2_with (first
      |(go_at_call 17;refine(HPr7.out _ hb).mono ?_;rintro en w8 ⟨rfl,hw8⟩;replace hw8:=hw8.symm;subst hw8)
      |(go_at_call 13;refine(HAw.out _).mono ?_;rintro en w9 ⟨rfl,hb9⟩)
      |fail)
     go_ret;exact⟨rfl,(hb07.trans (hb.mono hb07.size)).trans (hb9.mono (AF hb07.size hb.size))⟩
end
namespace gameMeets
open Go.ChangeShapes Go.WideShapes Go.ChangeAt Go.RowKit
theorem own:ownKnob Tryz.prog.godebug=none:=by kernel_rfl
theorem laidOut:laidOutB Tryz.prog=true:=by kernel_rfl
theorem lifted(os:Os)(started:os.Started)(H:Type)(enc:TypeId×Value→H):ReturnsInHanded {} Tryz.checked os 4 .any (Rows.gameMeetsSpec.pre6 enc Tryz.prog Tryz.f4 Rows.gameMeetsRow.domain false) (Rows.gameMeetsSpec.post enc Tryz.prog Tryz.f4 false true false false):=by
 refine returnsInHanded_of_change_sized (C:=Tryz.checked) own started (by kernel_rfl) Tryz.func4
  (ChangeSpec.witness6 (enc:=enc) (C:=Tryz.checked) false ⟨#[],#[.agg #[.int .i64 0,.int .i64 0,.int .i64 0,.int .u8 0,.int .u8 0,.int .u8 0,.int .u8 0,.int .u8 0,.int .u8 0,.int .u8 0,.int .u8 0],.slice none 0 0,.int .i64 0],[]⟩ 8 (by kernel_rfl) (by kernel_rfl) (by kernel_rfl) (by kernel_rfl)) ?_
 intro W base args ds gs before hval0 hW hcnd hsz0 _;have hval:∀(j:Nat) t v,Tryz.f4.params[j]? =some t→args[j]? =some v→Value.okWide Tryz.prog W .any base t v:=hval0;have hW':=hW;obtain⟨p,q,hA0,hV,rfl,hfz,hnd⟩:=hW;have hA:DataW.TrodAll enc Tryz.prog W 0 (fun _=>true) true Tryz.f4.params.toList args.toList ds p:=hA0;have hsz:(DataW.weightsEach Tryz.prog (Tryz.f4.params.toList++Rows.gameMeetsSpec.plain.varTypes Tryz.prog) (ds++gs)).all (·≤reachBytes)=true:=hsz0;rw[Tryz.params4]at hA hval hsz;obtain⟨v0,vs0,d0,ds0,p0,q0,hargs,rfl,rfl,h0,r0⟩:=trodAll_cons hA;obtain⟨v1,vs1,d1,ds1,p1,q1,ha1,rfl,rfl,h1,r1⟩:=trodAll_cons r0;subst ha1;obtain⟨v2,vs2,d2,ds2,p2,q2,ha2,rfl,rfl,h2,r2⟩:=trodAll_cons r1;subst ha2;obtain⟨rfl,rfl,rfl⟩:=trodAll_nil r2;obtain rfl:args=#[v0,v1,v2]:=by cases args;simp_all
 obtain⟨rfl,rfl⟩:=trodVars_none hV;have hwt:∀k∈DataW.weightsEach Tryz.prog ([26,27,3]++Rows.gameMeetsSpec.plain.varTypes Tryz.prog) ([d0,d1,d2]++[]),k≤reachBytes:=fun k hk=>by simpa using List.all_eq_true.1 hsz k hk
 have k0:=h0;have lt0:∀x∈p0,x.block<W.heap.size:=by obtain⟨m,hm⟩:=k0;exact DataW.trod_lt m _ _ _ hm
 obtain⟨s0,hv0⟩:∃s:Cfg,v0.cells.toList=s.cells.toList:=by
  obtain⟨fuel,hf⟩:=h0;exact JY hf
 obtain⟨cs0,hag0,_⟩:=okWide_struct Tryz.underlying26 (hval 0 26 v0 rfl rfl);obtain rfl:=NB hag0 hv0;clear hag0 hv0;have k1:=h1;have lt1:∀x∈p1,x.block<W.heap.size:=by obtain⟨m,hm⟩:=k1;exact DataW.trod_lt m _ _ _ hm
 obtain⟨A1,l1,cap1,hv1,hr1,hok1,hl1,hm1,_⟩:∃(A:Option Addr) (l:List Stp) (cap:Nat),v1.cells.toList=[.slice A l.length cap]∧Rd W W.heap.size A (l.flatMap stc)∧(∀a∈l,a.vote.ok)∧l.length≤cap∧cap≤maxLen∧l.length*Tryz.prog.bytesOf 48≤reachBytes:=by
  obtain⟨fuel,hf⟩:=h1;exact Hj stc 25 (fun a=>a.vote.ok) Tryz.underlying27 IV (by omega) (fun n cs x h _=>GB h) (fun _=>rfl) hf (Df hwt (j:=1) (t:=27) rfl rfl)
 obtain⟨a1,len1,c1,rfl⟩:=okWide_slice Tryz.underlying27 (hval 1 27 v1 rfl rfl);simp[Value.cells]at hv1;obtain⟨rfl,rfl,rfl⟩:=hv1;have k2:=h2;have lt2:∀x∈p2,x.block<W.heap.size:=by obtain⟨m,hm⟩:=k2;exact DataW.trod_lt m _ _ _ hm
 obtain⟨n2,hv2,_,hw2⟩:∃n:Int,v2.cells.toList=[.int .i64 n]∧True∧(Lit.int .i64 n).wf=true:=by
  obtain⟨fuel,hf⟩:=h2;obtain⟨n,e,_,hw⟩:=DataW.trod_int Tryz.underlying3 hf;exact⟨n,e,trivial,hw⟩
 obtain⟨m2,rfl⟩:=okWide_int Tryz.underlying3 (hval 2 3 v2 rfl rfl);simp[Value.cells]at hv2;subst hv2;clear hA0 hval0;refine(MH s0 a1 l1.length c1 l1 m2 W rfl hr1 hok1).mono fun e W' ⟨he,bel⟩=>?_
 subst he;exact⟨_,rfl,_,_,_,[],_,[],hW',trodAll_mk1 (shut_bool Tryz.underlying4 _),(trodAll_cons_mk (Below.trod laidOut (by kernel_rfl) (of_decide_eq_true (by kernel_rfl)) k0 bel lt0) (trodAll_cons_mk (Below.trod laidOut (by kernel_rfl) (of_decide_eq_true (by kernel_rfl)) k1 bel lt1) (trodAll_cons_mk (Below.trod laidOut (by kernel_rfl) (of_decide_eq_true (by kernel_rfl)) k2 bel lt2) trodAll_mk0))),rfl,bel.frame _,fun h=>by cases h⟩
theorem over:Rows.gameMeetsRow.holds Tryz.pinned (OpenSpec.ofChange Rows.gameMeetsSpec):=
 OpenClaim.holds_of_wide 4 Tryz.f4 rfl rfl rfl rfl rfl rfl rfl ⟨rfl,rfl,rfl,rfl,rfl⟩ rfl rfl rfl rfl rfl (by kernel_rfl) Tryz.func4 closed
  (of_decide_eq_true (by kernel_rfl)) (by unfold Func.isWrapper;first|(rw[if_pos (by decide+kernel)];kernel_rfl)|(rw[if_neg (by decide+kernel)];exact⟨rfl,rfl⟩))
  (fun os started H enc _=>lifted os started H enc)
theorem proved:Rows.GameMeetsSaid:=over
end gameMeets
end Go.Proofs.YtadllffeoibelaaGreat
