/-
  Parts of the proof. No condition.
-/
import Derived.Test.YtadllffeoibelaaGreatS12
import Derived.Laws.EntriesVeiled
open Go.Proofs.Tryz
namespace Go.Proofs.YtadllffeoibelaaGreat
set_option maxRecDepth 100000
set_option maxHeartbeats 32000000
set_option linter.all false
section
open Go.RowKit Go.Shelf
attribute [local go_sem ↓] Go.wp_at_zero Go.wp_at_succ Aq Au Av Aw
attribute [local go_sem] BE BL BM BN AR AX AU
def KZ(n0:Nat)(W0:World)(b g:Nat)(lb:Array Value):Prop:=b<n0/\Blk W0 b 110 #[.func (.func g) #[] lb]
theorem KZ.below{n0:Nat}{W0 V:World}{b g:Nat}{lb:Array Value}(h:KZ n0 W0 b g lb)(hV:Below n0 W0 V):Blk V b 110 #[.func (.func g) #[] lb]:=h.2.below hV h.1
theorem Dg(M i:Int)(h0:0<=i)(h9:i<=9)(w:World):Calls prog 19 #[.int .i64 M,.int .i64 i] w fun e w'=>e= .returned (.bool ((xOf M).testBit i.toNat))/\w'=w:=by
 obtain⟨n,rfl⟩:∃n:Nat,i=(n:Int):=⟨i.toNat,by omega⟩;rw[Int.toNat_natCast];exact ET M n (by omega) w
theorem TB(i:Nat)(p:Vt->Bool)(bi bf g n0:Nat)(lb:Array Value)(W0:World)(hi:bi<n0/\Blk W0 bi 3 #[.int .i64 (i:Int)])(hf:KZ n0 W0 bf g lb)(hF:B5 n0 W0 g lb p)(hn:n0<=W0.heap.size):B5 n0 W0 278 #[.pointer (some ⟨bi,0,none⟩),.pointer (some ⟨bf,0,none⟩)] (fun w=>decide (w.signer=(i:Int))&&p w):=by
 refine⟨enters_of func278 (by kernel_rfl) rfl,fun V hV u hu=>?_⟩;have hbw:Wx V (V.alloc (Obj.cells u.cells 46)):=(AC _ _).alloc (AB _) _;have x1:=(Blk.new V 46 u.cells).row 22 rfl;have c1:(V.alloc (Obj.cells u.cells 46)).cell? ⟨bi,0,none⟩=some (.int .i64 (i:Int)):=((hi.2.below hV hi.1).alloc _).cell 0;have c2:(V.alloc (Obj.cells u.cells 46)).cell? ⟨bf,0,none⟩=some (.func (.func g) #[] lb):=((hf.below hV).alloc _).cell 0;have HP:Hid (∀W,Wx V W->Calls prog g (#[u.val]++lb) W (An W (p u))):=fun W hW=>hF.tells W (hV.trans (hW.mono (AG hn hV.size))) u hu
 have eg:=hF.ent;obtain⟨k1,hk1⟩:=Wr (decide (u.signer=(i:Int)));obtain⟨k2,hk2⟩:=Wr (p u);have e1:(u.signer==(i:Int))=k1:=by rw[hk1];rfl
 rw[<-hk1,<-hk2];rw[<-hk2]at HP;clear hk1 hk2 hu hi hf hF hn hV;cases k1
 ·go_enter func278,ntmps278;go_wp2;go_ret;exact⟨rfl,hbw⟩
 ·go_enter func278,ntmps278;go_wp2_with fail
  refine(HP.out _ hbw).mono ?_;rintro en w2 ⟨rfl,hb2⟩;go_wp2;go_ret;exact⟨rfl,hbw.trans (hb2.mono hbw.size)⟩
theorem RA(p1 p2:Vt->Bool)(b1 b2 g1 g2 n0:Nat)(l1 l2:Array Value)(W0:World)(h1:KZ n0 W0 b1 g1 l1)(h2:KZ n0 W0 b2 g2 l2)(hF1:B5 n0 W0 g1 l1 p1)(hF2:B5 n0 W0 g2 l2 p2)(hn:n0<=W0.heap.size):B5 n0 W0 261 #[.pointer (some ⟨b1,0,none⟩),.pointer (some ⟨b2,0,none⟩)] (fun w=>p1 w||p2 w):=by
 refine⟨enters_of func261 (by kernel_rfl) rfl,fun V hV u hu=>?_⟩;have hbw:Wx V (V.alloc (Obj.cells u.cells 46)):=(AC _ _).alloc (AB _) _;have hB:=Blk.new V 46 u.cells;have x1:=hB.row 22 rfl;have c1:(V.alloc (Obj.cells u.cells 46)).cell? ⟨b1,0,none⟩=some (.func (.func g1) #[] l1):=((h1.below hV).alloc _).cell 0;have HP1:Hid (∀W,Wx V W->Calls prog g1 (#[u.val]++l1) W (An W (p1 u))):=fun W hW=>hF1.tells W (hV.trans (hW.mono (AG hn hV.size))) u hu
 have HP2:Hid (∀W,Wx V W->Calls prog g2 (#[u.val]++l2) W (An W (p2 u))):=fun W hW=>hF2.tells W (hV.trans (hW.mono (AG hn hV.size))) u hu
 have HC2:Hid (∀W,Wx V W->W.cell? ⟨b2,0,none⟩=some (.func (.func g2) #[] l2)):=fun W hW=>(h2.below (hV.trans (hW.mono (AG hn hV.size)))).cell 0
 have HX:Hid (∀W,Below (V.alloc (Obj.cells u.cells 46)).heap.size (V.alloc (Obj.cells u.cells 46)) W->AK W V.heap.size 0 22=some u.cells):=fun W hW=>(hB.below hW hB.lt).row 22 rfl
 have eg1:=hF1.ent;have eg2:=hF2.ent;obtain⟨k1,hk1⟩:=Wr (p1 u);obtain⟨k2,hk2⟩:=Wr (p2 u);rw[<-hk1,<-hk2];rw[<-hk1]at HP1;rw[<-hk2]at HP2;clear hk1 hk2 hu h1 h2 hF1 hF2 hn hV hB;go_enter func261,ntmps261;go_wp2_with fail
 refine(HP1.out _ hbw).mono ?_;rintro en w2 ⟨rfl,hb2⟩;have xL:=hbw.trans (hb2.mono hbw.size);have x2:=HX.out _ hb2;have c2:=HC2.out _ xL;clear x1 c1;cases k1
 ·go_wp2_with fail
  refine(HP2.out _ xL).mono ?_;rintro en w3 ⟨rfl,hb3⟩;go_wp2;go_ret;exact⟨rfl,xL.trans (hb3.mono xL.size)⟩
 ·go_wp2;go_ret;exact⟨rfl,xL⟩
theorem Ul(v:Vt)(p:Vt->Bool)(b1 b2 g n0:Nat)(lb:Array Value)(W0:World)(h1:G9 n0 W0 b1 v)(h2:KZ n0 W0 b2 g lb)(hF:B5 n0 W0 g lb p)(hn:n0<=W0.heap.size):B5 n0 W0 262 #[.pointer (some ⟨b1,0,none⟩),.pointer (some ⟨b2,0,none⟩)] (fun w=>(xOf v.support).testBit w.signer.toNat&&p w):=by
 refine⟨enters_of func262 (by kernel_rfl) rfl,fun V hV u hu=>?_⟩;have hbw:Wx V (V.alloc (Obj.cells u.cells 46)):=(AC _ _).alloc (AB _) _;have x1:=(Blk.new V 46 u.cells).row 22 rfl;have c1:(V.alloc (Obj.cells u.cells 46)).cell? ⟨b1,5,none⟩=some (I v.support):=((h1.below hV).alloc _).cell 5;have c2:(V.alloc (Obj.cells u.cells 46)).cell? ⟨b2,0,none⟩=some (.func (.func g) #[] lb):=((h2.below hV).alloc _).cell 0;have HP:Hid (∀W,Wx V W->Calls prog g (#[u.val]++lb) W (An W (p u))):=fun W hW=>hF.tells W (hV.trans (hW.mono (AG hn hV.size))) u hu
 have HA:Hid (∀W,Calls prog 19 #[.int .i64 v.support,.int .i64 u.signer] W fun e w'=>e= .returned (.bool ((xOf v.support).testBit u.signer.toNat))/\w'=W):=fun W=>Dg _ _ hu.2.1.1 hu.2.1.2 W
 have eg:=hF.ent;obtain⟨k1,hk1⟩:=Wr ((xOf v.support).testBit u.signer.toNat);obtain⟨k2,hk2⟩:=Wr (p u);rw[<-hk1,<-hk2];rw[<-hk1]at HA;rw[<-hk2]at HP;clear hk1 hk2 hu h1 h2 hF hn hV;cases k1
 ·go_enter func262,ntmps262;go_wp2_with (go_at_call 19;refine(HA.out _).mono ?_;rintro en w2 ⟨rfl,hw2⟩;replace hw2:=hw2.symm;subst hw2)
  go_ret;exact⟨rfl,hbw⟩
 ·go_enter func262,ntmps262;go_wp2_with (go_at_call 19;refine(HA.out _).mono ?_;rintro en w2 ⟨rfl,hw2⟩;replace hw2:=hw2.symm;subst hw2)
  refine(HP.out _ hbw).mono ?_;rintro en w3 ⟨rfl,hb3⟩;go_wp2;go_ret;exact⟨rfl,hbw.trans (hb3.mono hbw.size)⟩
theorem RB(v:Vt)(p:Vt->Bool)(b1 b2 g n0:Nat)(lb:Array Value)(W0:World)(h1:KZ n0 W0 b1 g lb)(h2:G9 n0 W0 b2 v)(hF:B5 n0 W0 g lb p)(hn:n0<=W0.heap.size):B5 n0 W0 265 #[.pointer (some ⟨b1,0,none⟩),.pointer (some ⟨b2,0,none⟩)] (fun w=>p w&&Bo v w):=by
 refine⟨enters_of func265 (by kernel_rfl) rfl,fun V hV u hu=>?_⟩;have hbw:Wx V (V.alloc (Obj.cells u.cells 46)):=(AC _ _).alloc (AB _) _;have hB:=Blk.new V 46 u.cells;have x1:=hB.row 22 rfl;have c1:(V.alloc (Obj.cells u.cells 46)).cell? ⟨b1,0,none⟩=some (.func (.func g) #[] lb):=((h1.below hV).alloc _).cell 0;have HP:Hid (∀W,Wx V W->Calls prog g (#[u.val]++lb) W (An W (p u))):=fun W hW=>hF.tells W (hV.trans (hW.mono (AG hn hV.size))) u hu
 have HR2:Hid (∀W,Wx V W->AK W b2 0 22=some v.cells):=fun W hW=>(h2.below (hV.trans (hW.mono (AG hn hV.size)))).row 22 rfl
 have HX:Hid (∀W,Below (V.alloc (Obj.cells u.cells 46)).heap.size (V.alloc (Obj.cells u.cells 46)) W->AK W V.heap.size 0 22=some u.cells):=fun W hW=>(hB.below hW hB.lt).row 22 rfl
 have HS:Hid (∀W,Calls prog 224 #[v.val,u.val] W (An W (Bo v u))):=fun W=>EB v u W
 have eg:=hF.ent;obtain⟨k1,hk1⟩:=Wr (p u);obtain⟨k2,hk2⟩:=Wr (Bo v u);rw[<-hk1,<-hk2];rw[<-hk1]at HP;rw[<-hk2]at HS;clear hk1 hk2 hu h1 h2 hF hn hV hB;go_enter func265,ntmps265;go_wp2_with fail
 refine(HP.out _ hbw).mono ?_;rintro en w2 ⟨rfl,hb2⟩;have xL:=hbw.trans (hb2.mono hbw.size);have x2:=HX.out _ hb2;have x3:=HR2.out _ xL;clear x1 c1;cases k1
 ·go_wp2;go_ret;exact⟨rfl,xL⟩
 ·go_wp2_with (go_at_call 224;refine(HS.out _).mono ?_;rintro en w3 ⟨rfl,hb3⟩)
  go_ret;exact⟨rfl,xL.trans (hb3.mono xL.size)⟩
theorem Fo(M:Int)(q nC:Nat)(A:Option Addr)(c:Nat)(C:List Vt)(v:Vt)(g:Nat)(lb:Array Value)(p:Vt->Bool)(w:World)(hn:C.length=nC)(hr:Rd w w.heap.size A (C.flatMap vtc))(hv:∀v∈C,AW v)(hf:B5 w.heap.size w g lb p)(hsm:nC<=1000000)(hq:q<=10):Calls prog 257 #[.agg #[.int .i64 M,.int .i64 (q:Int),.slice A nC c],v.val,.func (.func g) #[] lb] w (An w (Df M q v C p)):=by
 obtain⟨W3,hW3⟩:=Wr (((w.alloc (.cells #[.int .i64 M,.int .i64 (q:Int),.slice A nC c] 269)).alloc (.cells v.cells 46)).alloc (.cells #[.func (.func g) #[] lb] 110));have xT:Wx w W3:=by rw[hW3];exact(((AC _ _).alloc (AB _) _).alloc (by simp) _).alloc (by simp;omega) _
 have hs3:W3.heap.size=w.heap.size+3:=by rw[hW3];simp
 have hBc:Blk W3 w.heap.size 269 #[.int .i64 M,.int .i64 (q:Int),.slice A nC c]:=by rw[hW3];exact((Blk.new w _ _).alloc _).alloc _
 have hBv:Blk W3 (w.heap.size+1) 46 v.cells:=by
  have h:=(Blk.new (w.alloc (.cells #[.int .i64 M,.int .i64 (q:Int),.slice A nC c] 269)) 46 v.cells).alloc (.cells #[.func (.func g) #[] lb] 110);rw[World.size_alloc]at h;rw[hW3];exact h
 have hBf:Blk W3 (w.heap.size+1+1) 110 #[.func (.func g) #[] lb]:=by
  have h:=Blk.new ((w.alloc (.cells #[.int .i64 M,.int .i64 (q:Int),.slice A nC c] 269)).alloc (.cells v.cells 46)) 110 #[.func (.func g) #[] lb];rw[World.size_alloc,World.size_alloc]at h;rw[hW3];exact h
 obtain⟨k1,hk1⟩:=Wr (decide (bits .andNot .i64 v.support M=0));have e1:(bits .andNot .i64 v.support M==0)=k1:=by rw[hk1];rfl
 obtain⟨s,hs⟩:=Wr (Ae (xOf v.support) 10);obtain⟨L,hL⟩:=Wr (CK (xOf v.support) 10);obtain⟨P,hP⟩:∃P:Nat->Bool,P=fun i:Nat=>C.any fun w=>decide (w.signer=(i:Int))&&p w:=⟨_,rfl⟩
 have hAk:Df M q v C p=(k1&&(decide (s=q)&&L.all P)):=by rw[hk1,hs,hL,hP];rfl
 have HSz:Hid (∀W,Calls prog 15 #[.int .i64 v.support] W fun e w'=>e= .returned (.int .i64 ((s:Nat):Int))/\w'=W):=fun W=>by rw[hs];exact Cd v.support W
 have HId:Hid (∀W,Calls prog 52 #[.int .i64 v.support] W fun e w'=>∃u,e= .returned u/\w'.ownsRow W.heap.size 3 1 u L.length (L.map fun i:Nat=>Value.int .i64 (i:Int))/\Wx W w'):=fun W=>by rw[hL];exact Pi v.support W
 have HL10:Hid (L.length<=10):=by unfold Hid;rw[hL];exact GC _ _
 have yu:Hid (∀(i bi:Nat) W,Wx W3 W->W3.heap.size<=bi->Blk W bi 3 #[.int .i64 (i:Int)]->Calls prog 222 #[.agg #[.int .i64 M,.int .i64 (q:Int),.slice A nC c],.func (.func 278) #[] #[.pointer (some ⟨bi,0,none⟩),.pointer (some ⟨w.heap.size+1+1,0,none⟩)]] W (An W (P i))):=fun i bi W hW hbi hB=>by
  have hW':=xT.trans (hW.mono xT.size);rw[hP];exact Ha M q nC A c C _ _ _ W hn ((hr.below hW').more hW'.size) hv (TB i p bi (w.heap.size+1+1) g W.heap.size lb W ⟨hB.lt,hB⟩ ⟨by have:=hW.size;omega,hBf.below hW (by omega)⟩ (hf.later hW' hW'.size) (AB _)) hsm
 have hq0:(q:Int)<=10:=by omega
 have hET:(s:Int)<=10:=by
  rw[hs];have:=Eh (xOf v.support) 10;omega
 have zD:=AA hAk;have HBc:=AA hBc;have HB3:=AA xT;have HS3:=AA hs3;have c0:W3.cell? ⟨w.heap.size,0,none⟩=some (.int .i64 M):=hBc.cell 0;have c1:W3.cell? ⟨w.heap.size,1,none⟩=some (.int .i64 (q:Int)):=hBc.cell 1;have c5:W3.cell? ⟨w.heap.size+1,5,none⟩=some (I v.support):=hBv.cell 5;clear hk1 hs hL hP hAk hn hr hv hf hBv hBf hBc xT hs3;go_enter func257,ntmps257;go_upto_region 1 with fail
 simp only[<-hW3];have HCs:Hid (∀W,Wx W3 W->W.cell? ⟨w.heap.size,0,none⟩=some (.int .i64 M)/\W.cell? ⟨w.heap.size,1,none⟩=some (.int .i64 (q:Int))/\W.cell? ⟨w.heap.size+1,5,none⟩=some (I v.support)):=fun W hW=>⟨(hW.cell (p:=⟨w.heap.size,0,none⟩) (by have:=HS3.out;show w.heap.size<_;omega)).trans c0,(hW.cell (p:=⟨w.heap.size,1,none⟩) (by have:=HS3.out;show w.heap.size<_;omega)).trans c1,(hW.cell (p:=⟨w.heap.size+1,5,none⟩) (by have:=HS3.out;show w.heap.size+1<_;omega)).trans c5⟩
 clear c0 c1 c5 hW3;have hr0:Wx W3 W3:=AC _ _;cases k1 with
 |false=>
  have e2:(bits .andNot .i64 v.support M !=0)=true:=by rw[bne,e1];rfl
  refine rgD (fun W=>W.cell? ⟨w.heap.size,0,none⟩=some (.int .i64 M)/\W.cell? ⟨w.heap.size,1,none⟩=some (.int .i64 (q:Int))/\W.cell? ⟨w.heap.size+1,5,none⟩=some (I v.support)) (HCs.out _ hr0.drew) fun _=>?_
  iterate 7 (refine tkA ?_;go_frame)
  refine skD 16 7 ?_;go_frame;refine skD 17 8 ?_;go_frame;refine skD 18 9 ?_;go_frame;refine skD 19 10 ?_;go_frame;refine skD 20 11 ?_;go_frame;refine skD 21 12 ?_;go_frame;refine tkD 22 13 ?_;go_frame;refine dnD ?_;go_wp2;go_ret;exact⟨by rw[zD.out];rfl,HB3.out.drew⟩
 |true=>
  have e2:(bits .andNot .i64 v.support M !=0)=false:=by rw[bne,e1];rfl
  by_cases hsq:s=q
  ·have dq:(((s:Nat):Int)==((q:Nat):Int))=true:=by subst hsq;simp
   have dn:(((s:Nat):Int) !=((q:Nat):Int))=false:=by rw[bne,dq];rfl
   refine rgD (fun W=>W.cell? ⟨w.heap.size,0,none⟩=some (.int .i64 M)/\W.cell? ⟨w.heap.size,1,none⟩=some (.int .i64 (q:Int))/\W.cell? ⟨w.heap.size+1,5,none⟩=some (I v.support)) (HCs.out _ hr0.drew) fun _=>?_
   iterate 9 (refine tkA ?_;go_frame)
   refine tkD 19 10 ?_;go_frame;refine tkD 20 11 ?_;go_frame;refine rd1 9 fun K hK=>?_
   go_simp;refine(HSz.out _).mono ?_;rintro en w4 ⟨rfl,hw4⟩;replace hw4:=hw4.symm;subst hw4;go_wp2_with fail
   refine hK.out _ _ (HCs.out _ hr0.drew) (fun _=>?_);clear hK K;try go_frame
   iterate 2 (refine tkA ?_;go_frame)
   refine dnD ?_;go_wp2_with (go_at_call 52;refine(HId.out _).mono ?_;rintro en w5 ⟨u5,rfl,xW,hb5⟩;obtain⟨A5,c5,hv5⟩:=BD xW;subst hv5)
   have HB5:=AA hb5;have hGD:=AA (Rd.of_own xW);have HW35:=AA hr0;obtain⟨nL,hnL⟩:=Wr L.length;have hEU:nL<=10:=by rw[hnL];exact HL10.out
   have HNL:=AA hnL;rw[<-hnL];clear hnL xW hr0;have ye:Wx W3 w5:=(AC W3.heap.size W3).drew.trans (hb5.mono (AB _));clear hb5
   go_loopw [27] (fun iv wr=>∃j:Nat,iv= .int .i64 (j:Int)/\j<=nL/\(L.take j).all P=true/\Wx w5 wr) (fun iv _=>nL-(intOf iv).toNat)
   case atStart=>exact⟨0,rfl,by omega,by simp,AC _ _⟩
   case round=>
    obtain⟨j,rfl,hjn,yF,hbr⟩:=hrel;have yT:=AA yF;clear yF;have hb3r:Wx W3 wr:=ye.trans (hbr.mono ye.size);by_cases hj:j<nL
    ·have dj:=Wu (show j<nL by omega)
     have jk:(j:Int)<(nL:Int):=by omega
     obtain⟨i,hi⟩:∃i,L[j]? =some i:=⟨_,AE (by rw[<-HNL.out];exact hj)⟩;have ya:Hid ((L.take (j+1)).all P=((L.take j).all P&&P i)):=by
      unfold Hid;rw[Ah,hi,List.all_append];simp
     have hD7:Hid (P i=false->L.all P=false):=fun h=>by
      rw[<-Bool.not_eq_true,List.all_eq_true];intro hh;rw[hh i (AN hi)]at h;cases h
     have zY:(L.map fun i:Nat=>Value.int .i64 (i:Int))[j]? =some (.int .i64 (i:Int)):=by rw[AV,hi];rfl
     obtain⟨b,o,rfl,hb,xH⟩:=(hGD.out.below hbr).cells (by intro e;rw[List.map_eq_nil_iff]at e;rw[e]at hi;simp at hi);have x1:wr.cell? ⟨b,o+j,none⟩=some (.int .i64 (i:Int)):=xH j _ zY;clear xH zY hi;go_upto_region 6 with fail
     have hAV:Wx W3 (wr.alloc (.cells #[.int .i64 (i:Int)] 3)):=hb3r.alloc hb3r.size _;have hCJ:w.heap.size<W3.heap.size:=by have:=HS3.out;omega
     have y0:=(HBc.out.below hAV hCJ).cell 0;have y1:=(HBc.out.below hAV hCJ).cell 1;have y2:=(HBc.out.below hAV hCJ).cell 2;simp at y0 y1 y2;have hCa:=AA (yu.out i wr.heap.size _ hAV hb3r.size (Blk.new wr _ _));obtain⟨pi,hpi⟩:=Wr (P i);rw[<-hpi]at hCa ya hD7;clear x1 hpi hCJ;try go_frame
     cases pi with
     |true=>
      go_wp2_with (go_at_call 222;refine hCa.out.mono ?_;rintro en w6 ⟨rfl,hb6⟩)
      go_roundw
      case rel=>exact⟨j+1,by go_num,by omega,by rw[ya.out,yT.out];rfl,(hbr.alloc hbr.size _).trans (hb6.mono (hbr.alloc hbr.size _).size)⟩
      case measure=>simp[intOf];omega
     |false=>
      go_wp2_with (go_at_call 222;refine hCa.out.mono ?_;rintro en w6 ⟨rfl,hb6⟩)
      go_ret;exact⟨by rw[zD.out,hD7.out (by simp),Bool.and_false,Bool.and_false];rfl,HB3.out.trans ((hAV.trans (hb6.mono hAV.size)).mono HB3.out.size)⟩
    ·have dj:=Wv (show nL<=j by omega)
     go_wp2;go_ret;refine⟨?_,HB3.out.trans (hb3r.mono HB3.out.size)⟩;have hDM:j=nL:=by omega
     have h:=yT.out;rw[hDM,HNL.out,List.take_length]at h;rw[zD.out,h,decide_eq_true hsq];rfl
  ·have dq:(((s:Nat):Int)==((q:Nat):Int))=false:=by simp;omega
   have dn:(((s:Nat):Int) !=((q:Nat):Int))=true:=by rw[bne,dq];rfl
   refine rgD (fun W=>W.cell? ⟨w.heap.size,0,none⟩=some (.int .i64 M)/\W.cell? ⟨w.heap.size,1,none⟩=some (.int .i64 (q:Int))/\W.cell? ⟨w.heap.size+1,5,none⟩=some (I v.support)) (HCs.out _ hr0.drew) fun _=>?_
   iterate 9 (refine tkA ?_;go_frame)
   refine tkD 19 10 ?_;go_frame;refine tkD 20 11 ?_;go_frame;refine rd1 9 fun K hK=>?_
   go_simp;refine(HSz.out _).mono ?_;rintro en w4 ⟨rfl,hw4⟩;replace hw4:=hw4.symm;subst hw4;go_wp2_with fail
   refine hK.out _ _ (HCs.out _ hr0.drew) (fun _=>?_);clear hK K;try go_frame
   iterate 2 (refine tkA ?_;go_frame)
   refine dnD ?_;go_wp2;go_ret;exact⟨by rw[zD.out,decide_eq_false hsq];rfl,HB3.out.drew⟩
theorem NV(M:Int)(q nC:Nat)(A:Option Addr)(c:Nat)(C:List Vt)(v:Vt)(w:World)(hn:C.length=nC)(hr:Rd w w.heap.size A (C.flatMap vtc))(hv:∀v∈C,AW v)(hsm:nC<=1000000)(hq:q<=10)(h1:v.round=1):Calls prog 225 #[.agg #[.int .i64 M,.int .i64 (q:Int),.slice A nC c],v.val] w (An w (Fn M q v C)):=by
 obtain⟨W2,hW2⟩:=Wr ((w.alloc (.cells #[.int .i64 M,.int .i64 (q:Int),.slice A nC c] 269)).alloc (.cells v.cells 46));have xL:Wx w W2:=by rw[hW2];exact((AC _ _).alloc (AB _) _).alloc (by simp) _
 have hs2:W2.heap.size=w.heap.size+1+1:=by rw[hW2];simp
 have hBc:Blk W2 w.heap.size 269 #[.int .i64 M,.int .i64 (q:Int),.slice A nC c]:=by rw[hW2];exact(Blk.new w _ _).alloc _
 have hBv:Blk W2 (w.heap.size+1) 46 v.cells:=by
  have h:=Blk.new (w.alloc (.cells #[.int .i64 M,.int .i64 (q:Int),.slice A nC c] 269)) 46 v.cells;rw[World.size_alloc]at h;rw[hW2];exact h
 have HS:Hid (∀W,Wx W2 W->Calls prog 257 #[.agg #[.int .i64 M,.int .i64 (q:Int),.slice A nC c],v.val,.func (.func 258) #[] #[(.pointer (some ⟨w.heap.size+1,0,none⟩))]] W (An W (Df M q v C (JT v)))):=fun W hW=>by
  have hW':=xL.trans (hW.mono xL.size);have BV:G9 W.heap.size W (w.heap.size+1) v:=⟨by have:=hW.size;omega,hBv.below hW (by omega)⟩;exact Fo M q nC A c C v _ _ _ W hn ((hr.below hW').more hW'.size) hv (Q8 v (w.heap.size+1) W.heap.size W BV) hsm hq
 obtain⟨k1,hk1⟩:=Wr (decide (v.choice=0));have e1:(v.choice==0)=k1:=by rw[hk1];rfl
 obtain⟨k2,hk2⟩:=Wr (Df M q v C (JT v));have hAk:Fn M q v C=(k1||k2):=by unfold Fn;rw[if_pos h1,hk1,hk2]
 rw[<-hk2]at HS;have e0:(v.round==1)=true:=by rw[h1];rfl
 have zD:=AA hAk;have HB2:=AA xL;have xM:Hid (∀W,Wx W2 W->AK W (w.heap.size+1) 0 22=some v.cells/\W.cell? ⟨w.heap.size+1,3,none⟩=some (I v.choice)/\W.cell? ⟨w.heap.size,0,none⟩=some (.int .i64 M)/\W.cell? ⟨w.heap.size,1,none⟩=some (.int .i64 (q:Int))/\W.cell? ⟨w.heap.size,2,none⟩=some (.slice A nC c)):=fun W hW=>
  ⟨(hBv.below hW (by omega)).row 22 rfl,(hBv.below hW (by omega)).cell 3,(hBc.below hW (by omega)).cell 0,(hBc.below hW (by omega)).cell 1,(hBc.below hW (by omega)).cell 2⟩
 clear hk1 hk2 hAk hn hr hv hsm hq hBc hBv xL hs2 h1;have HW:=AA hW2;clear hW2;go_enter func225,ntmps225;cases k1
 ·go_upto_region 2 with fail
  simp only[<-HW.out];obtain⟨x1,y3,y0,y1,y2⟩:=xM.out _ (AC _ _);go_wp2_with (go_at_call 257;refine(HS.out _ (AC _ _)).mono ?_;rintro en w3 ⟨rfl,hb3⟩)
  go_ret;exact⟨by rw[zD.out];rfl,HB2.out.trans (hb3.mono HB2.out.size)⟩
 ·go_upto_region 2 with fail
  simp only[<-HW.out];obtain⟨x1,y3,y0,y1,y2⟩:=xM.out _ (AC _ _);go_wp2;go_ret;exact⟨by rw[zD.out];rfl,HB2.out⟩
theorem NW(M:Int)(q nC:Nat)(A:Option Addr)(c:Nat)(C:List Vt)(v:Vt)(w:World)(hn:C.length=nC)(hr:Rd w w.heap.size A (C.flatMap vtc))(hv:∀v∈C,AW v)(hsm:nC<=1000000)(hq:q<=10)(h1:v.round≠1)(hrd:1<=v.round/\v.round<=12):Calls prog 225 #[.agg #[.int .i64 M,.int .i64 (q:Int),.slice A nC c],v.val] w (An w (Fn M q v C)):=by
 obtain⟨W0,hW0⟩:=Wr ((w.alloc (.cells #[.int .i64 M,.int .i64 (q:Int),.slice A nC c] 269)).alloc (.cells v.cells 46));have yP:Wx w W0:=by rw[hW0];exact((AC _ _).alloc (AB _) _).alloc (by simp) _
 have hs0:W0.heap.size=w.heap.size+1+1:=by rw[hW0];simp
 have hAl:Blk W0 w.heap.size 269 #[.int .i64 M,.int .i64 (q:Int),.slice A nC c]:=by rw[hW0];exact(Blk.new w _ _).alloc _
 have hAW:Blk W0 (w.heap.size+1) 46 v.cells:=by
  have h:=Blk.new (w.alloc (.cells #[.int .i64 M,.int .i64 (q:Int),.slice A nC c] 269)) 46 v.cells;rw[World.size_alloc]at h;rw[hW0];exact h
 have y9:W0.cell? ⟨w.heap.size+1,2,none⟩=some (I v.round):=hAW.cell 2;obtain⟨pf,hpf⟩:=Wr W0.heap.size;obtain⟨W1,hW1⟩:=Wr (W0.alloc (.cells #[.func (.func 259) #[] #[(.pointer (some ⟨w.heap.size+1,0,none⟩))]] 110));have hs1:W1.heap.size=pf+1:=by rw[hW1,hpf];simp
 obtain⟨pg,hpg⟩:=Wr W1.heap.size;obtain⟨W2,hW2⟩:=Wr (W1.alloc (.cells #[.func (.func 260) #[] #[(.pointer (some ⟨w.heap.size+1,0,none⟩))]] 110));have hs2:W2.heap.size=pg+1:=by rw[hW2,hpg];simp
 have zE:Wx W0 W1:=by rw[hW1];exact(AC _ _).alloc (AB _) _
 have xU:Wx W1 W2:=by rw[hW2];exact(AC _ _).alloc (AB _) _
 have yK:Wx w W1:=yP.trans (zE.mono yP.size);have xL:Wx w W2:=yK.trans (xU.mono yK.size);have hBc:Blk W2 w.heap.size 269 #[.int .i64 M,.int .i64 (q:Int),.slice A nC c]:=(hAl.below zE (by omega)).below xU (by omega);have hBv:Blk W2 (w.heap.size+1) 46 v.cells:=(hAW.below zE (by omega)).below xU (by omega);have hBf:Blk W2 pf 110 #[.func (.func 259) #[] #[(.pointer (some ⟨w.heap.size+1,0,none⟩))]]:=by
  have h:=Blk.new W0 110 #[.func (.func 259) #[] #[(.pointer (some ⟨w.heap.size+1,0,none⟩))]];rw[<-hW1,<-hpf]at h;exact h.below xU (by omega)
 have hBg:Blk W2 pg 110 #[.func (.func 260) #[] #[(.pointer (some ⟨w.heap.size+1,0,none⟩))]]:=by
  have h:=Blk.new W1 110 #[.func (.func 260) #[] #[(.pointer (some ⟨w.heap.size+1,0,none⟩))]];rwa[<-hW2,<-hpg]at h
 have hFV:∀W,Wx W2 W->B5 W.heap.size W 259 #[(.pointer (some ⟨w.heap.size+1,0,none⟩))] (JU v):=fun W hW=>S9 v hrd (w.heap.size+1) W.heap.size W ⟨by have:=hW.size;omega,hBv.below hW (by omega)⟩
 have hFM:∀W,Wx W2 W->B5 W.heap.size W 260 #[(.pointer (some ⟨w.heap.size+1,0,none⟩))] (I8 v):=fun W hW=>TA v hrd (w.heap.size+1) W.heap.size W ⟨by have:=hW.size;omega,hBv.below hW (by omega)⟩
 have hBF:∀W,Wx W2 W->KZ W.heap.size W pf 259 #[(.pointer (some ⟨w.heap.size+1,0,none⟩))]:=fun W hW=>⟨by have:=hW.size;omega,hBf.below hW (by omega)⟩
 have hBG:∀W,Wx W2 W->KZ W.heap.size W pg 260 #[(.pointer (some ⟨w.heap.size+1,0,none⟩))]:=fun W hW=>⟨by have:=hW.size;omega,hBg.below hW (by omega)⟩
 have HS1:Hid (∀W,Wx W2 W->Calls prog 257 #[.agg #[.int .i64 M,.int .i64 (q:Int),.slice A nC c],v.val,.func (.func 261) #[] #[(.pointer (some ⟨pf,0,none⟩)),(.pointer (some ⟨pg,0,none⟩))]] W (An W (Df M q v C (Kr v)))):=fun W hW=>by
  have hW':=xL.trans (hW.mono xL.size);have _BV:G9 W.heap.size W (w.heap.size+1) v:=⟨by have:=hW.size;omega,hBv.below hW (by omega)⟩;exact Fo M q nC A c C v _ _ _ W hn ((hr.below hW').more hW'.size) hv (RA (JU v) (I8 v) pf pg _ _ W.heap.size _ _ W (hBF W hW) (hBG W hW) (hFV W hW) (hFM W hW) (AB _)) hsm hq
 have HS2:Hid (∀W,Wx W2 W->Calls prog 257 #[.agg #[.int .i64 M,.int .i64 (q:Int),.slice A nC c],v.val,.func (.func 260) #[] #[(.pointer (some ⟨w.heap.size+1,0,none⟩))]] W (An W (Df M q v C (I8 v)))):=fun W hW=>by
  have hW':=xL.trans (hW.mono xL.size);have _BV:G9 W.heap.size W (w.heap.size+1) v:=⟨by have:=hW.size;omega,hBv.below hW (by omega)⟩;exact Fo M q nC A c C v _ _ _ W hn ((hr.below hW').more hW'.size) hv (hFM W hW) hsm hq
 have HH1:Hid (∀W,Wx W2 W->Calls prog 222 #[.agg #[.int .i64 M,.int .i64 (q:Int),.slice A nC c],.func (.func 262) #[] #[(.pointer (some ⟨w.heap.size+1,0,none⟩)),(.pointer (some ⟨pf,0,none⟩))]] W (An W (C.any (pIn v)))):=fun W hW=>by
  have hW':=xL.trans (hW.mono xL.size);exact Ha M q nC A c C _ _ _ W hn ((hr.below hW').more hW'.size) hv (Ul v (JU v) (w.heap.size+1) pf _ W.heap.size _ W ⟨by have:=hW.size;omega,hBv.below hW (by omega)⟩ (hBF W hW) (hFV W hW) (AB _)) hsm
 have HH2:Hid (∀W,Wx W2 W->Calls prog 222 #[.agg #[.int .i64 M,.int .i64 (q:Int),.slice A nC c],.func (.func 263) #[] #[(.pointer (some ⟨w.heap.size+1,0,none⟩))]] W (An W (C.any (Is v)))):=fun W hW=>by
  have hW':=xL.trans (hW.mono xL.size);exact Ha M q nC A c C _ _ _ W hn ((hr.below hW').more hW'.size) hv (Q9 v hrd (w.heap.size+1) W.heap.size W ⟨by have:=hW.size;omega,hBv.below hW (by omega)⟩) hsm
 obtain⟨k1,hk1⟩:=Wr (Df M q v C (Kr v));obtain⟨k2,hk2⟩:=Wr (C.any (pIn v));obtain⟨k3,hk3⟩:=Wr (Df M q v C (I8 v));obtain⟨k4,hk4⟩:=Wr (C.any (Is v));have hAk:Fn M q v C=((k1&&k2)||(k3&&k4)):=by unfold Fn;rw[if_neg h1,hk1,hk2,hk3,hk4]
 rw[<-hk1]at HS1;rw[<-hk2]at HH1;rw[<-hk3]at HS2;rw[<-hk4]at HH2;have e0:(v.round==1)=false:=by simp[h1]
 have zD:=AA hAk;have HB2:=AA xL;have xM:Hid (∀W,Wx W2 W->AK W (w.heap.size+1) 0 22=some v.cells/\W.cell? ⟨pg,0,none⟩=some (.func (.func 260) #[] #[(.pointer (some ⟨w.heap.size+1,0,none⟩))])/\W.cell? ⟨w.heap.size,0,none⟩=some (.int .i64 M)/\W.cell? ⟨w.heap.size,1,none⟩=some (.int .i64 (q:Int))/\W.cell? ⟨w.heap.size,2,none⟩=some (.slice A nC c)):=fun W hW=>
  ⟨(hBv.below hW (by omega)).row 22 rfl,(hBg.below hW (by omega)).cell 0,(hBc.below hW (by omega)).cell 0,(hBc.below hW (by omega)).cell 1,(hBc.below hW (by omega)).cell 2⟩
 have HW0:=AA hW0;have HW1:=AA hW1;have HW2:=AA hW2;have HPf:=AA hpf;have HPg:=AA hpg;clear hk1 hk2 hk3 hk4 hAk hn hr hv hsm hq hBc hBv hBf hBg xL hs2 h1 hW2 hFV hFM hBF hBG hrd hW0 hW1 hpf hpg hs0 hs1 yP yK zE xU hAl hAW;go_enter func225,ntmps225;go_upto_region 1 with fail
 simp only[<-HW0.out];go_upto_region 4 with fail
 simp only[<-HW1.out,<-HPf.out];go_upto_region 6 with fail
 simp only[<-HW2.out,<-HPg.out];have xA:Wx W2 W2:=AC _ _;obtain⟨x1,y3,y0,y1,y2⟩:=xM.out _ xA;cases k1
 ·clear HH1;cases k3
  ·go_wp2_with (first|(go_at_call 257;refine(HS1.out _ xA).mono ?_;rintro en wa ⟨rfl,hba⟩;replace xA:=xA.trans (hba.mono xA.size);obtain⟨x1,y3,y0,y1,y2⟩:=xM.out _ xA;clear HS1)|(go_at_call 222;refine(HH1.out _ xA).mono ?_;rintro en wa ⟨rfl,hba⟩;replace xA:=xA.trans (hba.mono xA.size);obtain⟨x1,y3,y0,y1,y2⟩:=xM.out _ xA;clear HH1)|(go_at_call 257;refine(HS2.out _ xA).mono ?_;rintro en wa ⟨rfl,hba⟩;replace xA:=xA.trans (hba.mono xA.size);obtain⟨x1,y3,y0,y1,y2⟩:=xM.out _ xA;clear HS2)|(go_at_call 222;refine(HH2.out _ xA).mono ?_;rintro en wa ⟨rfl,hba⟩;replace xA:=xA.trans (hba.mono xA.size);obtain⟨x1,y3,y0,y1,y2⟩:=xM.out _ xA;clear HH2))
   go_ret;exact⟨by rw[zD.out];rfl,HB2.out.trans (xA.mono HB2.out.size)⟩
  ·go_wp2_with (first|(go_at_call 257;refine(HS1.out _ xA).mono ?_;rintro en wa ⟨rfl,hba⟩;replace xA:=xA.trans (hba.mono xA.size);obtain⟨x1,y3,y0,y1,y2⟩:=xM.out _ xA;clear HS1)|(go_at_call 222;refine(HH1.out _ xA).mono ?_;rintro en wa ⟨rfl,hba⟩;replace xA:=xA.trans (hba.mono xA.size);obtain⟨x1,y3,y0,y1,y2⟩:=xM.out _ xA;clear HH1)|(go_at_call 257;refine(HS2.out _ xA).mono ?_;rintro en wa ⟨rfl,hba⟩;replace xA:=xA.trans (hba.mono xA.size);obtain⟨x1,y3,y0,y1,y2⟩:=xM.out _ xA;clear HS2)|(go_at_call 222;refine(HH2.out _ xA).mono ?_;rintro en wa ⟨rfl,hba⟩;replace xA:=xA.trans (hba.mono xA.size);obtain⟨x1,y3,y0,y1,y2⟩:=xM.out _ xA;clear HH2))
   go_ret;exact⟨by rw[zD.out];rfl,HB2.out.trans (xA.mono HB2.out.size)⟩
 ·skip
  cases k2
  ·skip
   cases k3
   ·go_wp2_with (first|(go_at_call 257;refine(HS1.out _ xA).mono ?_;rintro en wa ⟨rfl,hba⟩;replace xA:=xA.trans (hba.mono xA.size);obtain⟨x1,y3,y0,y1,y2⟩:=xM.out _ xA;clear HS1)|(go_at_call 222;refine(HH1.out _ xA).mono ?_;rintro en wa ⟨rfl,hba⟩;replace xA:=xA.trans (hba.mono xA.size);obtain⟨x1,y3,y0,y1,y2⟩:=xM.out _ xA;clear HH1)|(go_at_call 257;refine(HS2.out _ xA).mono ?_;rintro en wa ⟨rfl,hba⟩;replace xA:=xA.trans (hba.mono xA.size);obtain⟨x1,y3,y0,y1,y2⟩:=xM.out _ xA;clear HS2)|(go_at_call 222;refine(HH2.out _ xA).mono ?_;rintro en wa ⟨rfl,hba⟩;replace xA:=xA.trans (hba.mono xA.size);obtain⟨x1,y3,y0,y1,y2⟩:=xM.out _ xA;clear HH2))
    go_ret;exact⟨by rw[zD.out];rfl,HB2.out.trans (xA.mono HB2.out.size)⟩
   ·go_wp2_with (first|(go_at_call 257;refine(HS1.out _ xA).mono ?_;rintro en wa ⟨rfl,hba⟩;replace xA:=xA.trans (hba.mono xA.size);obtain⟨x1,y3,y0,y1,y2⟩:=xM.out _ xA;clear HS1)|(go_at_call 222;refine(HH1.out _ xA).mono ?_;rintro en wa ⟨rfl,hba⟩;replace xA:=xA.trans (hba.mono xA.size);obtain⟨x1,y3,y0,y1,y2⟩:=xM.out _ xA;clear HH1)|(go_at_call 257;refine(HS2.out _ xA).mono ?_;rintro en wa ⟨rfl,hba⟩;replace xA:=xA.trans (hba.mono xA.size);obtain⟨x1,y3,y0,y1,y2⟩:=xM.out _ xA;clear HS2)|(go_at_call 222;refine(HH2.out _ xA).mono ?_;rintro en wa ⟨rfl,hba⟩;replace xA:=xA.trans (hba.mono xA.size);obtain⟨x1,y3,y0,y1,y2⟩:=xM.out _ xA;clear HH2))
    go_ret;exact⟨by rw[zD.out];rfl,HB2.out.trans (xA.mono HB2.out.size)⟩
  ·go_wp2_with (first|(go_at_call 257;refine(HS1.out _ xA).mono ?_;rintro en wa ⟨rfl,hba⟩;replace xA:=xA.trans (hba.mono xA.size);obtain⟨x1,y3,y0,y1,y2⟩:=xM.out _ xA;clear HS1)|(go_at_call 222;refine(HH1.out _ xA).mono ?_;rintro en wa ⟨rfl,hba⟩;replace xA:=xA.trans (hba.mono xA.size);obtain⟨x1,y3,y0,y1,y2⟩:=xM.out _ xA;clear HH1)|(go_at_call 257;refine(HS2.out _ xA).mono ?_;rintro en wa ⟨rfl,hba⟩;replace xA:=xA.trans (hba.mono xA.size);obtain⟨x1,y3,y0,y1,y2⟩:=xM.out _ xA;clear HS2)|(go_at_call 222;refine(HH2.out _ xA).mono ?_;rintro en wa ⟨rfl,hba⟩;replace xA:=xA.trans (hba.mono xA.size);obtain⟨x1,y3,y0,y1,y2⟩:=xM.out _ xA;clear HH2))
   go_ret;exact⟨by rw[zD.out];rfl,HB2.out.trans (xA.mono HB2.out.size)⟩
structure RC (n0:Nat)(I:List Vt->World->Prop)(p:List Vt->Vt->Bool)(g:Nat)(lb:Array Value):Prop where
 ent:∀args W,(callFunc g args).run prog W= .ok (.enter g args) W
 tells:∀D V,I D V->∀v:Vt,AW v->Calls prog g (#[v.val]++lb) V fun e w'=>e= .returned (.bool (p D v))/\Below n0 V w'/\I (D++[v]) w'
 stable:∀D V W,I D V->Wx V W->I D W
theorem Pu(M:Int)(q nC n0:Nat)(A:Option Addr)(c:Nat)(C:List Vt)(g:Nat)(lb:Array Value)(I:List Vt->World->Prop)(p:List Vt->Vt->Bool)(w:World)(hn:C.length=nC)(hr:Rd w n0 A (C.flatMap vtc))(hn0:n0<=w.heap.size)(hv:∀v∈C,AW v)(hf:RC n0 I p g lb)(hI:I [] w)(hsm:nC<=1000000):Calls prog 222 #[.agg #[.int .i64 M,.int .i64 (q:Int),.slice A nC c],.func (.func g) #[] lb] w fun e w'=>∃b,e= .returned (.bool b)/\Below n0 w w'/\(b=true↔∃i u,C[i]? =some u/\p (C.take i) u=true):=by
 have HN:=AA hn;have HR:=AA hr;have HV:=AA hv;have HF:=AA hf;have HI:Hid (I [] (w.alloc (.cells #[.int .i64 M,.int .i64 (q:Int),.slice A nC c] 269))):=hf.stable _ _ _ hI ((AC _ _).alloc (AB _) _);clear hn hr hv hf hI;have yP:Below n0 w (w.alloc (.cells #[.int .i64 M,.int .i64 (q:Int),.slice A nC c] 269)):=(AC _ _).alloc hn0 _;go_enter func222,ntmps222;go_wp2
 go_loopw [10] (fun iv wr=>∃i:Nat,iv= .int .i64 (i:Int)/\i<=nC/\n0<=wr.heap.size/\Hid (I (C.take i) wr)/\Below n0 w wr/\Hid (∀j u,j<i->C[j]? =some u->p (C.take j) u=false)) (fun iv _=>nC-(intOf iv).toNat)
 case atStart=>exact⟨0,rfl,by omega,by simp;omega,by rw[List.take_zero];exact HI,yP,fun j u hj=>by omega⟩
 case round=>
  obtain⟨i,rfl,hin,hsz,HIr,hbw,HNo⟩:=hrel;by_cases hi:i<nC
  ·have di:=Wu (show i<nC by omega)
   have ik:(i:Int)<(nC:Int):=by omega
   have hil:i<=1000000:=by omega
   obtain⟨v,hvi⟩:∃v,C[i]? =some v:=⟨_,AE (by rw[HN.out];exact hi)⟩;obtain⟨b,o,rfl,hb,xH⟩:=HR.out.cells (by intro e;have:=AY vtc 22 C (CI C);rw[e,HN.out]at this;simp at this;omega);clear xH;have x1:AK wr b (o+i*22) 22=some v.cells:=(HR.out.below hbw).voteRow hvi;have HP:=AA HF.out.tells;have eg:=HF.out.ent;have HVv:=AA (HV.out v (AN hvi));have HVi:=AA hvi;obtain⟨k,hk⟩:=Wr (p (C.take i) v);have HKp:=AA hk;obtain⟨D,hD⟩:=Wr (C.take i);rw[<-hD]at HIr HKp;have HD:=AA hD;clear hvi hk hD;go_upto_region 4 with(refine AJ rfl 46 (.tmp 6) (.tmp 13) rfl wr.heap.size v.cells rfl rfl 46 Bk.cells (Blk.new wr _ _) (by rfl) (by kernel_rfl) (fun u hu=>BH v hu) ?_;intro w4 hB4 hg4 xb)
   have yY:Wx wr w4:=((AC _ _).alloc (AB _) _).grown hg4 (by simp) (Wt (AB _));have HI4:Hid (I D w4):=HF.out.stable _ _ _ HIr.out yY;have xI:Below n0 w w4:=hbw.trans (yY.mono hsz);have x4:=hB4.row 22 rfl;clear x1 hB4 hg4 xb;try go_frame
   go_wp2_with fail
   have xN:=HP.out _ _ HI4.out v HVv.out;rw[<-HKp.out]at xN;refine xN.mono ?_;clear xN;rintro en w5 ⟨rfl,hb5,hI5⟩;have HI5:=AA hI5;clear hI5;have xS:=xI.trans hb5;have hs5:n0<=w5.heap.size:=AG (AG hsz yY.size) hb5.size;cases k with
   |true=>
    go_wp2;go_ret;exact⟨true,rfl,xS,fun _=>⟨i,v,HVi.out,by rw[<-HD.out];exact HKp.out.symm⟩,fun _=>rfl⟩
   |false=>
    go_wp2;go_roundw
    case rel=>
     refine⟨i+1,by go_num,by omega,hs5,?_,xS,fun j u hj hu=>?_⟩
     ·rw[Ah,HVi.out,<-HD.out];exact HI5
     ·rcases Nat.lt_or_ge j i with h|h
      ·exact HNo.out j u h hu
      ·have e:j=i:=by omega
       subst e;rw[HVi.out]at hu;injection hu with hu
       subst hu;rw[<-HD.out];exact HKp.out.symm
    case measure=>simp[intOf];omega
  ·have di:=Wv (show nC<=i by omega)
   go_wp2;go_ret;exact⟨false,rfl,hbw,fun h=>(by cases h),fun⟨j,u,hj,hp⟩=>by
    have h1:=(AF.1 hj).1;have h2:=HNo.out j u (by have:=HN.out;omega) hj;rw[hp]at h2;cases h2⟩
def I9(v:Vt)(D:List Vt)(u:Vt):Bool:=DN v u&&match D.find? (DN v)with
 |none=>false
 |some x=>!Bo x u
theorem Ks(u:Vt):Bo u u=true:=by unfold Bo;simp
theorem IW{v u:Vt}{D:List Vt}:(D++[u]).find? (DN v)=(D.find? (DN v)).or (if DN v u=true then some u else none):=by
 rw[List.find?_append];congr 1;rw[List.find?_cons];split <;> simp_all
theorem TC{v:Vt}{C:List Vt}:(∃i u,C[i]? =some u/\I9 v (C.take i) u=true)↔LR v C=true:=by
 unfold LR;rw[List.any_eq_true];constructor
 ·rintro⟨i,u,hu,h⟩;unfold I9 at h;rw[Bool.and_eq_true]at h;cases hf:(C.take i).find? (DN v)with
  |none=>rw[hf]at h;cases h.2
  |some x=>
   rw[hf]at h;have hx:=List.mem_of_mem_take (List.mem_of_find?_eq_some hf);have hp:=List.find?_some hf;refine⟨x,hx,?_⟩;rw[Bool.and_eq_true,List.any_eq_true];exact⟨hp,u,AN hu,by rw[Bool.and_eq_true];exact⟨h.1,h.2⟩⟩
 ·rintro⟨w,hw,h⟩;rw[Bool.and_eq_true,List.any_eq_true]at h;obtain⟨h1,u,hu,h2⟩:=h;rw[Bool.and_eq_true]at h2;obtain⟨h2,h3⟩:=h2
  --the first that counts
  cases hf:C.find? (DN v)with
  |none=>exact absurd h1 (by simpa using List.find?_eq_none.1 hf w hw)
  |some f=>
   obtain⟨k,hk⟩:=List.mem_iff_getElem?.1 (List.mem_of_find?_eq_some hf);have far:∀z∈C,DN v z=true->Bo f z=false->∃i u,C[i]? =some u/\I9 v (C.take i) u=true:=fun z hz hpz hne=>by
    obtain⟨i,hi⟩:=List.mem_iff_getElem?.1 hz;refine⟨i,z,hi,?_⟩;have hsp:C.take i++C.drop i=C:=Aj i C;have e:(C.take i).find? (DN v)=some f:=by
     rw[<-hsp,List.find?_append]at hf;cases ht:(C.take i).find? (DN v)with
     |some y=>rw[ht]at hf;simpa using hf
     |none=>
      exfalso;rw[ht]at hf;have hd:C.drop i=z::C.drop (i+1):=by
       obtain⟨hlt,hz2⟩:=AF.1 hi;rw[List.drop_eq_getElem_cons hlt,hz2]
      rw[hd,List.find?_cons,hpz]at hf;simp at hf;rw[hf,Ks]at hne;cases hne
    unfold I9;rw[hpz,e];show(true&&!Bo f z)=true;rw[hne];rfl
   cases ha:Bo f w with
   |false=>exact far w hw h1 ha
   |true=>
    refine far u hu h2 ?_;cases hb:Bo f u with
    |false=>rfl
    |true=>
     exfalso;unfold Bo at ha hb h3;rw[Bool.and_eq_true,decide_eq_true_eq,decide_eq_true_eq]at ha hb;rw[<-ha.1,<-ha.2,hb.1,hb.2]at h3;simp at h3
def JV(n0:Nat)(W0:World)(v:Vt)(D:List Vt)(V:World):Prop:=Below n0 W0 V/\∃f,Blk V n0 296 #[.pointer f]/\((f=none/\D.find? (DN v)=none)∨∃b u,f=some ⟨b,0,none⟩/\b≠n0/\Blk V b 46 (Vt.cells u)/\D.find? (DN v)=some u)
theorem JV.stable{n0:Nat}{W0 V W:World}{v:Vt}{D:List Vt}(hn:n0<=W0.heap.size)(h:JV n0 W0 v D V)(hb:Wx V W):JV n0 W0 v D W:=by
 obtain⟨h1,f,h2,h3⟩:=h;refine⟨h1.trans (hb.mono (AG hn h1.size)),f,h2.below hb h2.lt,?_⟩;rcases h3 with h3|⟨b,u,h4,h5,h6,h7⟩
 ·exact .inl h3
 ·exact .inr ⟨b,u,h4,h5,h6.below hb h6.lt,h7⟩
theorem JV.skip{n0:Nat}{W0 V:World}{v u:Vt}{D:List Vt}(h:JV n0 W0 v D V)(hp:DN v u=false):JV n0 W0 v (D++[u]) V:=by
 obtain⟨h1,f,h2,h3⟩:=h;have e:(D++[u]).find? (DN v)=D.find? (DN v):=by rw[IW,hp];simp
 exact⟨h1,f,h2,by rw[e];exact h3⟩
theorem RD{v u:Vt}{D:List Vt}(hp:DN v u=false):I9 v D u=false:=by unfold I9;rw[hp];rfl
theorem RE(v:Vt)(b1 b2 n0:Nat)(W0:World)(h1:KZ n0 W0 b1 264 #[.pointer (some ⟨b2,0,none⟩)])(h2:G9 n0 W0 b2 v)(hn:n0<=W0.heap.size):RC n0 (JV n0 W0 v) (I9 v) 266 #[.pointer (some ⟨b1,0,none⟩),.pointer (some ⟨b2,0,none⟩),.pointer (some ⟨n0,0,none⟩)]:=by
 refine⟨enters_of func266 (by kernel_rfl) rfl,fun D V hV u hu=>?_,fun D V W h hb=>h.stable hn hb⟩;have HV:=AA hV;obtain⟨hV0,f,hBf,hf⟩:=hV;have hBL:n0<V.heap.size:=hBf.lt;obtain⟨V1,hV1⟩:=Wr (V.alloc (Obj.cells u.cells 46));have hb1:Wx V V1:=by rw[hV1];exact(AC _ _).alloc (AB _) _
 have hs1:V1.heap.size=V.heap.size+1:=by rw[hV1];simp
 have hBu:Blk V1 V.heap.size 46 u.cells:=by rw[hV1];exact Blk.new _ _ _
 have hF:B5 n0 W0 264 #[.pointer (some ⟨b2,0,none⟩)] (FP v):=LS v b2 n0 W0 h2;have HP:Hid (∀W,Wx V1 W->Calls prog 264 #[u.val,.pointer (some ⟨b2,0,none⟩)] W (An W (FP v u))):=fun W hW=>hF.tells W (hV0.trans ((hb1.trans (hW.mono hb1.size)).mono (Nat.le_of_lt hBL))) u hu
 have HA:Hid (∀W,Calls prog 19 #[.int .i64 v.support,.int .i64 u.signer] W fun e w'=>e= .returned (.bool ((xOf v.support).testBit u.signer.toNat))/\w'=W):=fun W=>Dg _ _ hu.2.1.1 hu.2.1.2 W
 have xM:Hid (∀W,Wx V1 W->Below n0 V W/\W.cell? ⟨b1,0,none⟩=some (.func (.func 264) #[] #[.pointer (some ⟨b2,0,none⟩)])/\W.cell? ⟨b2,5,none⟩=some (I v.support)/\AK W V.heap.size 0 22=some u.cells/\W.cell? ⟨V.heap.size,4,none⟩=some (I u.signer)/\Blk W V.heap.size 46 u.cells/\W.cell? ⟨n0,0,none⟩=some (.pointer f)/\W.frozen? ⟨n0,0,none⟩=false/\Blk W n0 296 #[.pointer f]/\W.heap.size≥V.heap.size+1/\JV n0 W0 v D W):=fun W hW=>by
  have hVW:Wx V W:=hb1.trans (hW.mono hb1.size);have hVn:=hVW.mono (Nat.le_of_lt hBL);have hB:=hBu.below hW (by omega);have hBn:=hBf.below hVW hBL;exact⟨hVn,(h1.below (hV0.trans hVn)).cell 0,(h2.below (hV0.trans hVn)).cell 5,hB.row 22 rfl,hB.cell 4,hB,hBn.cell 0,hBn.frozen 0,hBn,by have:=hW.size;omega,HV.out.stable hn hVW⟩
 obtain⟨k1,hk1⟩:=Wr (FP v u);obtain⟨k2,hk2⟩:=Wr ((xOf v.support).testBit u.signer.toNat);rw[<-hk1]at HP;rw[<-hk2]at HA;have HS:Hid (∀(x:Vt) W,Calls prog 224 #[x.val,u.val] W (An W (Bo x u))):=fun x W=>EB x u W
 have HK:Hid (DN v u=(k1&&k2)):=by unfold Hid DN;rw[hk1,hk2]
 have HW:=AA hV1;have HFp:=AA hf;have HB0:Hid ((f=none/\D.find? (DN v)=none)∨∃b x,f=some ⟨b,0,none⟩/\b≠n0/\D.find? (DN v)=some x/\∀W,Wx V W->Blk W b 46 (Vt.cells x)):=by
  rcases hf with hf|⟨b,x,h4,h5,h6,h7⟩
  ·exact .inl hf
  ·exact .inr ⟨b,x,h4,h5,h7,fun W hW=>h6.below hW h6.lt⟩
 have hGE:=AA hb1;have HV0:=AA hV0;have hltn:=hBL;clear hk1 hk2 hF hBu hb1 hs1 hV1 hf hV0 hBf h1 h2 hu hBL;go_enter func266,ntmps266;go_upto_region 1 with fail
 simp only[<-HW.out];have xA:Wx V1 V1:=AC _ _;obtain⟨hn0,y1,y2,x1,y3,hBu,y4,y5,hB4,hs4,hI⟩:=xM.out _ xA;have HBu:=AA hBu;have HB4:=AA hB4;have HI:=AA hI;clear hBu hB4 hI;cases k1
 ·go_wp2_with (go_at_call 264;refine(HP.out _ xA).mono ?_;rintro en wa ⟨rfl,hba⟩;replace xA:=xA.trans (hba.mono xA.size))
  go_ret;have h:=xM.out _ xA;have hp:DN v u=false:=HK.out;exact⟨by rw[RD hp];rfl,h.1,h.2.2.2.2.2.2.2.2.2.2.skip hp⟩
 ·go_wp2_with fail
  refine(HP.out _ xA).mono ?_;rintro en wa ⟨rfl,hba⟩;replace xA:=xA.trans (hba.mono xA.size);clear hn0 y1 y2 x1 y3 HBu y4 y5 HB4 hs4 HI hba;obtain⟨hn0,y1,y2,x1,y3,hBu,y4,y5,hB4,hs4,hI⟩:=xM.out _ xA;have HBu:=AA hBu;have HB4:=AA hB4;have HI:=AA hI;clear hBu hB4 hI;cases k2
  ·go_wp2_with (go_at_call 19;refine(HA.out _).mono ?_;rintro en w2 ⟨rfl,hw2⟩;replace hw2:=hw2.symm;subst hw2)
   go_ret;have hp:DN v u=false:=HK.out;exact⟨by rw[RD hp];rfl,hn0,HI.out.skip hp⟩
  ·rcases HB0.out with⟨hf,hAm⟩|⟨b,x,hf,hbn,hCb,hBx⟩
   ·subst hf;have HU:Hid (I9 v D u=!Bo u u):=by unfold Hid I9;rw[hAm,Ks,HK.out];rfl
    have zW:Hid ((D++[u]).find? (DN v)=some u):=by unfold Hid;rw[IW,hAm,HK.out];rfl
    clear hAm;go_upto_region 5 with(go_at_call 19;refine(HA.out _).mono ?_;rintro en w2 ⟨rfl,hw2⟩;replace hw2:=hw2.symm;subst hw2)
    obtain⟨ws,hws⟩:=Wr (wa.setCell ⟨n0,0,none⟩ (.pointer (some ⟨V.heap.size,0,none⟩)));have hB5:Blk ws n0 296 #[.pointer (some ⟨V.heap.size,0,none⟩)]:=by rw[hws];exact HB4.out.put 0 _
    have hDN:Blk ws V.heap.size 46 u.cells:=by rw[hws];exact HBu.out.far (by show V.heap.size≠n0;omega) _
    have hbs:Below n0 V ws:=by rw[hws];exact hn0.setCell (p:=⟨n0,0,none⟩) (AB _) _
    have hss:V.heap.size<ws.heap.size:=hDN.lt;simp only[<-hws];have HBs:=AA hbs;have HF5:Hid (∀W,Wx ws W->W.cell? ⟨n0,0,none⟩=some (.pointer (some ⟨V.heap.size,0,none⟩))/\AK W V.heap.size 0 22=some u.cells):=fun W hW=>⟨(hB5.below hW hB5.lt).cell 0,(hDN.below hW hss).row 22 rfl⟩
    have HE:Hid (∀W,Wx ws W->JV n0 W0 v (D++[u]) W):=fun W hW=>⟨HV0.out.trans (hbs.trans (hW.mono (by omega))),_,hB5.below hW hB5.lt,.inr ⟨V.heap.size,u,rfl,by omega,hDN.below hW hss,zW.out⟩⟩
    have hr0:Wx ws ws:=AC _ _;clear hws hB5 hDN hbs y1 y2 x1 y3 HBu y4 y5 HB4 hs4 HI hn0 xA;refine rgD (fun W=>W.cell? ⟨n0,0,none⟩=some (.pointer (some ⟨V.heap.size,0,none⟩))/\AK W V.heap.size 0 22=some u.cells) (HF5.out _ hr0.drew) fun _=>?_
    iterate 4 (refine tkA ?_;go_frame)
    refine rd1 4 fun K hK=>?_
    go_simp;refine(HS.out u _).mono ?_;rintro en w6 ⟨rfl,hb6⟩;have xh:=hr0.drew.trans (hb6.mono (AB _));go_wp2_with fail
    refine hK.out _ _ (HF5.out _ xh) (fun _=>?_);clear hK K;try go_frame
    iterate 2 (refine tkA ?_;go_frame)
    refine dnD ?_;go_wp2;go_ret;exact⟨by rw[HU.out];rfl,HBs.out.trans (xh.mono (by omega)),HE.out _ xh⟩
   ·subst hf;have HU:Hid (I9 v D u=!Bo x u):=by unfold Hid I9;rw[hCb,HK.out];rfl
    have zW:Hid ((D++[u]).find? (DN v)=some x):=by unfold Hid;rw[IW,hCb];rfl
    clear hCb;go_upto_region 5 with(go_at_call 19;refine(HA.out _).mono ?_;rintro en w2 ⟨rfl,hw2⟩;replace hw2:=hw2.symm;subst hw2)
    have hVa:Wx V wa:=hGE.out.trans (xA.mono hGE.out.size);have HVa:=AA hVa;have HN0:=AA hn0;have HF5:Hid (∀W,Wx wa W->W.cell? ⟨n0,0,none⟩=some (.pointer (some ⟨b,0,none⟩))/\AK W b 0 22=some (Vt.cells x)/\AK W V.heap.size 0 22=some u.cells):=fun W hW=>⟨(HB4.out.below hW HB4.out.lt).cell 0,(hBx W (hVa.trans (hW.mono hVa.size))).row 22 rfl,(HBu.out.below hW HBu.out.lt).row 22 rfl⟩
    have HE:Hid (∀W,Wx wa W->JV n0 W0 v (D++[u]) W):=fun W hW=>⟨(HI.out.stable hn hW).1,_,HB4.out.below hW HB4.out.lt,.inr ⟨b,x,rfl,hbn,hBx W (hVa.trans (hW.mono hVa.size)),zW.out⟩⟩
    have hna:n0<=wa.heap.size:=AG (Nat.le_of_lt hltn) hVa.size;have hr0:Wx wa wa:=AC _ _;clear hBx y1 y2 x1 y3 HBu y4 y5 HB4 hs4 HI hn0 xA hVa;refine rgD (fun W=>W.cell? ⟨n0,0,none⟩=some (.pointer (some ⟨b,0,none⟩))/\AK W b 0 22=some (Vt.cells x)/\AK W V.heap.size 0 22=some u.cells) (HF5.out _ hr0.drew) fun _=>?_
    iterate 4 (refine tkA ?_;go_frame)
    refine rd1 4 fun K hK=>?_
    go_simp;refine(HS.out x _).mono ?_;rintro en w6 ⟨rfl,hb6⟩;have xh:=hr0.drew.trans (hb6.mono (AB _));go_wp2_with fail
    refine hK.out _ _ (HF5.out _ xh) (fun _=>?_);clear hK K;try go_frame
    iterate 2 (refine tkA ?_;go_frame)
    refine dnD ?_;go_wp2;go_ret;exact⟨by rw[HU.out];rfl,HN0.out.trans (xh.mono hna),HE.out _ xh⟩
end
end Go.Proofs.YtadllffeoibelaaGreat
