/-
  Parts of the proof. No condition.
-/
import Derived.Test.YtadllffeoibelaaGreatS12
import Derived.Laws.EntriesVeiled
open Go.Proofs.Tryz
namespace Go.Proofs.YtadllffeoibelaaGreat
set_option maxRecDepth 100000
set_option maxHeartbeats 32000000
set_option linter.all false
section
open Go.RowKit Go.Shelf
attribute [local go_sem ↓] Go.wp_at_zero Go.wp_at_succ Aj Ao Ap Aq
attribute [local go_sem] Ax BB BC BD AK AR AN
def Lh(n0:Nat)(W0:World)(b g:Nat)(lb:Array Value):Prop:=b<n0/\Blk W0 b 110 #[.func (.func g) #[] lb]
theorem Lh.below{n0:Nat}{W0 V:World}{b g:Nat}{lb:Array Value}(h:Lh n0 W0 b g lb)(hV:Below n0 W0 V):Blk V b 110 #[.func (.func g) #[] lb]:=h.2.below hV h.1
theorem Do(M i:Int)(h0:0<=i)(h9:i<=9)(w:World):Calls prog 19 #[.int .i64 M,.int .i64 i] w fun e w'=>e= .returned (.bool ((xOf M).testBit i.toNat))/\w'=w:=by
 obtain⟨n,rfl⟩:∃n:Nat,i=(n:Int):=⟨i.toNat,by omega⟩;rw[Int.toNat_natCast];exact Ff M n (by omega) w
theorem VK(i:Nat)(p:Vt->Bool)(bi bf g n0:Nat)(lb:Array Value)(W0:World)(hi:bi<n0/\Blk W0 bi 3 #[.int .i64 (i:Int)])(hf:Lh n0 W0 bf g lb)(hF:B5 n0 W0 g lb p)(hn:n0<=W0.heap.size):B5 n0 W0 278 #[.pointer (some ⟨bi,0,none⟩),.pointer (some ⟨bf,0,none⟩)] (fun w=>decide (w.signer=(i:Int))&&p w):=by
 refine⟨enters_of func278 (by kernel_rfl) rfl,fun V hV u hu=>?_⟩;have hbw:ZN V (V.alloc (Obj.cells u.cells 46)):=(AC _ _).alloc (AB _) _;have x1:=(Blk.new V 46 u.cells).row 22 rfl;have c1:(V.alloc (Obj.cells u.cells 46)).cell? ⟨bi,0,none⟩=some (.int .i64 (i:Int)):=((hi.2.below hV hi.1).alloc _).cell 0;have c2:(V.alloc (Obj.cells u.cells 46)).cell? ⟨bf,0,none⟩=some (.func (.func g) #[] lb):=((hf.below hV).alloc _).cell 0;have HP:Hid (∀W,ZN V W->Calls prog g (#[u.val]++lb) W (Ac W (p u))):=fun W hW=>hF.tells W (hV.trans (hW.mono (AG hn hV.size))) u hu
 have eg:=hF.ent;obtain⟨k1,hk1⟩:=ZH (decide (u.signer=(i:Int)));obtain⟨k2,hk2⟩:=ZH (p u);have e1:(u.signer==(i:Int))=k1:=by rw[hk1];rfl
 rw[<-hk1,<-hk2];rw[<-hk2]at HP;clear hk1 hk2 hu hi hf hF hn hV;cases k1
 ·go_enter func278,ntmps278;go_wp2;go_ret;exact⟨rfl,hbw⟩
 ·go_enter func278,ntmps278;go_wp2_with fail
  refine(HP.out _ hbw).mono ?_;rintro en w2 ⟨rfl,hb2⟩;go_wp2;go_ret;exact⟨rfl,hbw.trans (hb2.mono hbw.size)⟩
theorem S3(p1 p2:Vt->Bool)(b1 b2 g1 g2 n0:Nat)(l1 l2:Array Value)(W0:World)(h1:Lh n0 W0 b1 g1 l1)(h2:Lh n0 W0 b2 g2 l2)(hF1:B5 n0 W0 g1 l1 p1)(hF2:B5 n0 W0 g2 l2 p2)(hn:n0<=W0.heap.size):B5 n0 W0 261 #[.pointer (some ⟨b1,0,none⟩),.pointer (some ⟨b2,0,none⟩)] (fun w=>p1 w||p2 w):=by
 refine⟨enters_of func261 (by kernel_rfl) rfl,fun V hV u hu=>?_⟩;have hbw:ZN V (V.alloc (Obj.cells u.cells 46)):=(AC _ _).alloc (AB _) _;have hB:=Blk.new V 46 u.cells;have x1:=hB.row 22 rfl;have c1:(V.alloc (Obj.cells u.cells 46)).cell? ⟨b1,0,none⟩=some (.func (.func g1) #[] l1):=((h1.below hV).alloc _).cell 0;have HP1:Hid (∀W,ZN V W->Calls prog g1 (#[u.val]++l1) W (Ac W (p1 u))):=fun W hW=>hF1.tells W (hV.trans (hW.mono (AG hn hV.size))) u hu
 have HP2:Hid (∀W,ZN V W->Calls prog g2 (#[u.val]++l2) W (Ac W (p2 u))):=fun W hW=>hF2.tells W (hV.trans (hW.mono (AG hn hV.size))) u hu
 have HC2:Hid (∀W,ZN V W->W.cell? ⟨b2,0,none⟩=some (.func (.func g2) #[] l2)):=fun W hW=>(h2.below (hV.trans (hW.mono (AG hn hV.size)))).cell 0
 have HX:Hid (∀W,Below (V.alloc (Obj.cells u.cells 46)).heap.size (V.alloc (Obj.cells u.cells 46)) W->AJ W V.heap.size 0 22=some u.cells):=fun W hW=>(hB.below hW hB.lt).row 22 rfl
 have eg1:=hF1.ent;have eg2:=hF2.ent;obtain⟨k1,hk1⟩:=ZH (p1 u);obtain⟨k2,hk2⟩:=ZH (p2 u);rw[<-hk1,<-hk2];rw[<-hk1]at HP1;rw[<-hk2]at HP2;clear hk1 hk2 hu h1 h2 hF1 hF2 hn hV hB;go_enter func261,ntmps261;go_wp2_with fail
 refine(HP1.out _ hbw).mono ?_;rintro en w2 ⟨rfl,hb2⟩;have xB:=hbw.trans (hb2.mono hbw.size);have x2:=HX.out _ hb2;have c2:=HC2.out _ xB;clear x1 c1;cases k1
 ·go_wp2_with fail
  refine(HP2.out _ xB).mono ?_;rintro en w3 ⟨rfl,hb3⟩;go_wp2;go_ret;exact⟨rfl,xB.trans (hb3.mono xB.size)⟩
 ·go_wp2;go_ret;exact⟨rfl,xB⟩
theorem XK(v:Vt)(p:Vt->Bool)(b1 b2 g n0:Nat)(lb:Array Value)(W0:World)(h1:IX n0 W0 b1 v)(h2:Lh n0 W0 b2 g lb)(hF:B5 n0 W0 g lb p)(hn:n0<=W0.heap.size):B5 n0 W0 262 #[.pointer (some ⟨b1,0,none⟩),.pointer (some ⟨b2,0,none⟩)] (fun w=>(xOf v.support).testBit w.signer.toNat&&p w):=by
 refine⟨enters_of func262 (by kernel_rfl) rfl,fun V hV u hu=>?_⟩;have hbw:ZN V (V.alloc (Obj.cells u.cells 46)):=(AC _ _).alloc (AB _) _;have x1:=(Blk.new V 46 u.cells).row 22 rfl;have c1:(V.alloc (Obj.cells u.cells 46)).cell? ⟨b1,5,none⟩=some (I v.support):=((h1.below hV).alloc _).cell 5;have c2:(V.alloc (Obj.cells u.cells 46)).cell? ⟨b2,0,none⟩=some (.func (.func g) #[] lb):=((h2.below hV).alloc _).cell 0;have HP:Hid (∀W,ZN V W->Calls prog g (#[u.val]++lb) W (Ac W (p u))):=fun W hW=>hF.tells W (hV.trans (hW.mono (AG hn hV.size))) u hu
 have HA:Hid (∀W,Calls prog 19 #[.int .i64 v.support,.int .i64 u.signer] W fun e w'=>e= .returned (.bool ((xOf v.support).testBit u.signer.toNat))/\w'=W):=fun W=>Do _ _ hu.2.1.1 hu.2.1.2 W
 have eg:=hF.ent;obtain⟨k1,hk1⟩:=ZH ((xOf v.support).testBit u.signer.toNat);obtain⟨k2,hk2⟩:=ZH (p u);rw[<-hk1,<-hk2];rw[<-hk1]at HA;rw[<-hk2]at HP;clear hk1 hk2 hu h1 h2 hF hn hV;cases k1
 ·go_enter func262,ntmps262;go_wp2_with (go_at_call 19;refine(HA.out _).mono ?_;rintro en w2 ⟨rfl,hw2⟩;replace hw2:=hw2.symm;subst hw2)
  go_ret;exact⟨rfl,hbw⟩
 ·go_enter func262,ntmps262;go_wp2_with (go_at_call 19;refine(HA.out _).mono ?_;rintro en w2 ⟨rfl,hw2⟩;replace hw2:=hw2.symm;subst hw2)
  refine(HP.out _ hbw).mono ?_;rintro en w3 ⟨rfl,hb3⟩;go_wp2;go_ret;exact⟨rfl,hbw.trans (hb3.mono hbw.size)⟩
theorem S4(v:Vt)(p:Vt->Bool)(b1 b2 g n0:Nat)(lb:Array Value)(W0:World)(h1:Lh n0 W0 b1 g lb)(h2:IX n0 W0 b2 v)(hF:B5 n0 W0 g lb p)(hn:n0<=W0.heap.size):B5 n0 W0 265 #[.pointer (some ⟨b1,0,none⟩),.pointer (some ⟨b2,0,none⟩)] (fun w=>p w&&Cl v w):=by
 refine⟨enters_of func265 (by kernel_rfl) rfl,fun V hV u hu=>?_⟩;have hbw:ZN V (V.alloc (Obj.cells u.cells 46)):=(AC _ _).alloc (AB _) _;have hB:=Blk.new V 46 u.cells;have x1:=hB.row 22 rfl;have c1:(V.alloc (Obj.cells u.cells 46)).cell? ⟨b1,0,none⟩=some (.func (.func g) #[] lb):=((h1.below hV).alloc _).cell 0;have HP:Hid (∀W,ZN V W->Calls prog g (#[u.val]++lb) W (Ac W (p u))):=fun W hW=>hF.tells W (hV.trans (hW.mono (AG hn hV.size))) u hu
 have HR2:Hid (∀W,ZN V W->AJ W b2 0 22=some v.cells):=fun W hW=>(h2.below (hV.trans (hW.mono (AG hn hV.size)))).row 22 rfl
 have HX:Hid (∀W,Below (V.alloc (Obj.cells u.cells 46)).heap.size (V.alloc (Obj.cells u.cells 46)) W->AJ W V.heap.size 0 22=some u.cells):=fun W hW=>(hB.below hW hB.lt).row 22 rfl
 have HS:Hid (∀W,Calls prog 224 #[v.val,u.val] W (Ac W (Cl v u))):=fun W=>EP v u W
 have eg:=hF.ent;obtain⟨k1,hk1⟩:=ZH (p u);obtain⟨k2,hk2⟩:=ZH (Cl v u);rw[<-hk1,<-hk2];rw[<-hk1]at HP;rw[<-hk2]at HS;clear hk1 hk2 hu h1 h2 hF hn hV hB;go_enter func265,ntmps265;go_wp2_with fail
 refine(HP.out _ hbw).mono ?_;rintro en w2 ⟨rfl,hb2⟩;have xB:=hbw.trans (hb2.mono hbw.size);have x2:=HX.out _ hb2;have x3:=HR2.out _ xB;clear x1 c1;cases k1
 ·go_wp2;go_ret;exact⟨rfl,xB⟩
 ·go_wp2_with (go_at_call 224;refine(HS.out _).mono ?_;rintro en w3 ⟨rfl,hb3⟩)
  go_ret;exact⟨rfl,xB.trans (hb3.mono xB.size)⟩
theorem GI(M:Int)(q nC:Nat)(A:Option Addr)(c:Nat)(C:List Vt)(v:Vt)(g:Nat)(lb:Array Value)(p:Vt->Bool)(w:World)(hn:C.length=nC)(hr:Rd w w.heap.size A (C.flatMap vtc))(hv:∀v∈C,Ab v)(hf:B5 w.heap.size w g lb p)(hsm:nC<=1000000)(hq:q<=10):Calls prog 257 #[.agg #[.int .i64 M,.int .i64 (q:Int),.slice A nC c],v.val,.func (.func g) #[] lb] w (Ac w (Ep M q v C p)):=by
 obtain⟨W3,hW3⟩:=ZH (((w.alloc (.cells #[.int .i64 M,.int .i64 (q:Int),.slice A nC c] 269)).alloc (.cells v.cells 46)).alloc (.cells #[.func (.func g) #[] lb] 110));have xJ:ZN w W3:=by rw[hW3];exact(((AC _ _).alloc (AB _) _).alloc (by simp) _).alloc (by simp;omega) _
 have hs3:W3.heap.size=w.heap.size+3:=by rw[hW3];simp
 have hBc:Blk W3 w.heap.size 269 #[.int .i64 M,.int .i64 (q:Int),.slice A nC c]:=by rw[hW3];exact((Blk.new w _ _).alloc _).alloc _
 have hBv:Blk W3 (w.heap.size+1) 46 v.cells:=by
  have h:=(Blk.new (w.alloc (.cells #[.int .i64 M,.int .i64 (q:Int),.slice A nC c] 269)) 46 v.cells).alloc (.cells #[.func (.func g) #[] lb] 110);rw[World.size_alloc]at h;rw[hW3];exact h
 have hBf:Blk W3 (w.heap.size+1+1) 110 #[.func (.func g) #[] lb]:=by
  have h:=Blk.new ((w.alloc (.cells #[.int .i64 M,.int .i64 (q:Int),.slice A nC c] 269)).alloc (.cells v.cells 46)) 110 #[.func (.func g) #[] lb];rw[World.size_alloc,World.size_alloc]at h;rw[hW3];exact h
 obtain⟨k1,hk1⟩:=ZH (decide (bits .andNot .i64 v.support M=0));have e1:(bits .andNot .i64 v.support M==0)=k1:=by rw[hk1];rfl
 obtain⟨s,hs⟩:=ZH (Aw (xOf v.support) 10);obtain⟨L,hL⟩:=ZH (CV (xOf v.support) 10);obtain⟨P,hP⟩:∃P:Nat->Bool,P=fun i:Nat=>C.any fun w=>decide (w.signer=(i:Int))&&p w:=⟨_,rfl⟩
 have xt:Ep M q v C p=(k1&&(decide (s=q)&&L.all P)):=by rw[hk1,hs,hL,hP];rfl
 have HSz:Hid (∀W,Calls prog 15 #[.int .i64 v.support] W fun e w'=>e= .returned (.int .i64 ((s:Nat):Int))/\w'=W):=fun W=>by rw[hs];exact Ct v.support W
 have HId:Hid (∀W,Calls prog 52 #[.int .i64 v.support] W fun e w'=>∃u,e= .returned u/\w'.ownsRow W.heap.size 3 1 u L.length (L.map fun i:Nat=>Value.int .i64 (i:Int))/\ZN W w'):=fun W=>by rw[hL];exact RN v.support W
 have HL10:Hid (L.length<=10):=by unfold Hid;rw[hL];exact GV _ _
 have zw:Hid (∀(i bi:Nat) W,ZN W3 W->W3.heap.size<=bi->Blk W bi 3 #[.int .i64 (i:Int)]->Calls prog 222 #[.agg #[.int .i64 M,.int .i64 (q:Int),.slice A nC c],.func (.func 278) #[] #[.pointer (some ⟨bi,0,none⟩),.pointer (some ⟨w.heap.size+1+1,0,none⟩)]] W (Ac W (P i))):=fun i bi W hW hbi hB=>by
  have hW':=xJ.trans (hW.mono xJ.size);rw[hP];exact IY M q nC A c C _ _ _ W hn ((hr.below hW').more hW'.size) hv (VK i p bi (w.heap.size+1+1) g W.heap.size lb W ⟨hB.lt,hB⟩ ⟨by have:=hW.size;omega,hBf.below hW (by omega)⟩ (hf.later hW' hW'.size) (AB _)) hsm
 have hq0:(q:Int)<=10:=by omega
 have hEy:(s:Int)<=10:=by
  rw[hs];have:=Fw (xOf v.support) 10;omega
 have yc:=AA xt;have HBc:=AA hBc;have HB3:=AA xJ;have HS3:=AA hs3;have c0:W3.cell? ⟨w.heap.size,0,none⟩=some (.int .i64 M):=hBc.cell 0;have c1:W3.cell? ⟨w.heap.size,1,none⟩=some (.int .i64 (q:Int)):=hBc.cell 1;have c5:W3.cell? ⟨w.heap.size+1,5,none⟩=some (I v.support):=hBv.cell 5;clear hk1 hs hL hP xt hn hr hv hf hBv hBf hBc xJ hs3;go_enter func257,ntmps257;go_upto_region 1 with fail
 simp only[<-hW3];have HCs:Hid (∀W,ZN W3 W->W.cell? ⟨w.heap.size,0,none⟩=some (.int .i64 M)/\W.cell? ⟨w.heap.size,1,none⟩=some (.int .i64 (q:Int))/\W.cell? ⟨w.heap.size+1,5,none⟩=some (I v.support)):=fun W hW=>⟨(hW.cell (p:=⟨w.heap.size,0,none⟩) (by have:=HS3.out;show w.heap.size<_;omega)).trans c0,(hW.cell (p:=⟨w.heap.size,1,none⟩) (by have:=HS3.out;show w.heap.size<_;omega)).trans c1,(hW.cell (p:=⟨w.heap.size+1,5,none⟩) (by have:=HS3.out;show w.heap.size+1<_;omega)).trans c5⟩
 clear c0 c1 c5 hW3;have hr0:ZN W3 W3:=AC _ _;cases k1 with
 |false=>
  have e2:(bits .andNot .i64 v.support M !=0)=true:=by rw[bne,e1];rfl
  refine rgD (fun W=>W.cell? ⟨w.heap.size,0,none⟩=some (.int .i64 M)/\W.cell? ⟨w.heap.size,1,none⟩=some (.int .i64 (q:Int))/\W.cell? ⟨w.heap.size+1,5,none⟩=some (I v.support)) (HCs.out _ hr0.drew) fun _=>?_
  iterate 7 (refine tkA ?_;go_frame)
  refine skD 16 7 ?_;go_frame;refine skD 17 8 ?_;go_frame;refine skD 18 9 ?_;go_frame;refine skD 19 10 ?_;go_frame;refine skD 20 11 ?_;go_frame;refine skD 21 12 ?_;go_frame;refine tkD 22 13 ?_;go_frame;refine dnD ?_;go_wp2;go_ret;exact⟨by rw[yc.out];rfl,HB3.out.drew⟩
 |true=>
  have e2:(bits .andNot .i64 v.support M !=0)=false:=by rw[bne,e1];rfl
  by_cases hsq:s=q
  ·have dq:(((s:Nat):Int)==((q:Nat):Int))=true:=by subst hsq;simp
   have dn:(((s:Nat):Int) !=((q:Nat):Int))=false:=by rw[bne,dq];rfl
   refine rgD (fun W=>W.cell? ⟨w.heap.size,0,none⟩=some (.int .i64 M)/\W.cell? ⟨w.heap.size,1,none⟩=some (.int .i64 (q:Int))/\W.cell? ⟨w.heap.size+1,5,none⟩=some (I v.support)) (HCs.out _ hr0.drew) fun _=>?_
   iterate 9 (refine tkA ?_;go_frame)
   refine tkD 19 10 ?_;go_frame;refine tkD 20 11 ?_;go_frame;refine rd1 9 fun K hK=>?_
   go_simp;refine(HSz.out _).mono ?_;rintro en w4 ⟨rfl,hw4⟩;replace hw4:=hw4.symm;subst hw4;go_wp2_with fail
   refine hK.out _ _ (HCs.out _ hr0.drew) (fun _=>?_);clear hK K;try go_frame
   iterate 2 (refine tkA ?_;go_frame)
   refine dnD ?_;go_wp2_with (go_at_call 52;refine(HId.out _).mono ?_;rintro en w5 ⟨u5,rfl,xW,hb5⟩;obtain⟨A5,c5,hv5⟩:=Av xW;subst hv5)
   have HB5:=AA hb5;have hGt:=AA (Rd.of_own xW);have HW35:=AA hr0;obtain⟨nL,hnL⟩:=ZH L.length;have hEz:nL<=10:=by rw[hnL];exact HL10.out
   have HNL:=AA hnL;rw[<-hnL];clear hnL xW hr0;have yl:ZN W3 w5:=(AC W3.heap.size W3).drew.trans (hb5.mono (AB _));clear hb5
   go_loopw [27] (fun iv wr=>∃j:Nat,iv= .int .i64 (j:Int)/\j<=nL/\(L.take j).all P=true/\ZN w5 wr) (fun iv _=>nL-(intOf iv).toNat)
   case atStart=>exact⟨0,rfl,by omega,by simp,AC _ _⟩
   case round=>
    obtain⟨j,rfl,hjn,yY,hbr⟩:=hrel;have yg:=AA yY;clear yY;have hb3r:ZN W3 wr:=yl.trans (hbr.mono yl.size);by_cases hj:j<nL
    ·have dj:=ZK (show j<nL by omega)
     have jk:(j:Int)<(nL:Int):=by omega
     obtain⟨i,hi⟩:∃i,L[j]? =some i:=⟨_,AD (by rw[<-HNL.out];exact hj)⟩;have yi:Hid ((L.take (j+1)).all P=((L.take j).all P&&P i)):=by
      unfold Hid;rw[Ai,hi,List.all_append];simp
     have hES:Hid (P i=false->L.all P=false):=fun h=>by
      rw[<-Bool.not_eq_true,List.all_eq_true];intro hh;rw[hh i (AM hi)]at h;cases h
     have zh:(L.map fun i:Nat=>Value.int .i64 (i:Int))[j]? =some (.int .i64 (i:Int)):=by rw[AQ,hi];rfl
     obtain⟨b,o,rfl,hb,xH⟩:=(hGt.out.below hbr).cells (by intro e;rw[List.map_eq_nil_iff]at e;rw[e]at hi;simp at hi);have x1:wr.cell? ⟨b,o+j,none⟩=some (.int .i64 (i:Int)):=xH j _ zh;clear xH zh hi;go_upto_region 6 with fail
     have hAi:ZN W3 (wr.alloc (.cells #[.int .i64 (i:Int)] 3)):=hb3r.alloc hb3r.size _;have hCZ:w.heap.size<W3.heap.size:=by have:=HS3.out;omega
     have y0:=(HBc.out.below hAi hCZ).cell 0;have y1:=(HBc.out.below hAi hCZ).cell 1;have y2:=(HBc.out.below hAi hCZ).cell 2;simp at y0 y1 y2;have hCx:=AA (zw.out i wr.heap.size _ hAi hb3r.size (Blk.new wr _ _));obtain⟨pi,hpi⟩:=ZH (P i);rw[<-hpi]at hCx yi hES;clear x1 hpi hCZ;try go_frame
     cases pi with
     |true=>
      go_wp2_with (go_at_call 222;refine hCx.out.mono ?_;rintro en w6 ⟨rfl,hb6⟩)
      go_roundw
      case rel=>exact⟨j+1,by go_num,by omega,by rw[yi.out,yg.out];rfl,(hbr.alloc hbr.size _).trans (hb6.mono (hbr.alloc hbr.size _).size)⟩
      case measure=>simp[intOf];omega
     |false=>
      go_wp2_with (go_at_call 222;refine hCx.out.mono ?_;rintro en w6 ⟨rfl,hb6⟩)
      go_ret;exact⟨by rw[yc.out,hES.out (by simp),Bool.and_false,Bool.and_false];rfl,HB3.out.trans ((hAi.trans (hb6.mono hAi.size)).mono HB3.out.size)⟩
    ·have dj:=ZL (show nL<=j by omega)
     go_wp2;go_ret;refine⟨?_,HB3.out.trans (hb3r.mono HB3.out.size)⟩;have hDm:j=nL:=by omega
     have h:=yg.out;rw[hDm,HNL.out,List.take_length]at h;rw[yc.out,h,decide_eq_true hsq];rfl
  ·have dq:(((s:Nat):Int)==((q:Nat):Int))=false:=by simp;omega
   have dn:(((s:Nat):Int) !=((q:Nat):Int))=true:=by rw[bne,dq];rfl
   refine rgD (fun W=>W.cell? ⟨w.heap.size,0,none⟩=some (.int .i64 M)/\W.cell? ⟨w.heap.size,1,none⟩=some (.int .i64 (q:Int))/\W.cell? ⟨w.heap.size+1,5,none⟩=some (I v.support)) (HCs.out _ hr0.drew) fun _=>?_
   iterate 9 (refine tkA ?_;go_frame)
   refine tkD 19 10 ?_;go_frame;refine tkD 20 11 ?_;go_frame;refine rd1 9 fun K hK=>?_
   go_simp;refine(HSz.out _).mono ?_;rintro en w4 ⟨rfl,hw4⟩;replace hw4:=hw4.symm;subst hw4;go_wp2_with fail
   refine hK.out _ _ (HCs.out _ hr0.drew) (fun _=>?_);clear hK K;try go_frame
   iterate 2 (refine tkA ?_;go_frame)
   refine dnD ?_;go_wp2;go_ret;exact⟨by rw[yc.out,decide_eq_false hsq];rfl,HB3.out.drew⟩
theorem PI(M:Int)(q nC:Nat)(A:Option Addr)(c:Nat)(C:List Vt)(v:Vt)(w:World)(hn:C.length=nC)(hr:Rd w w.heap.size A (C.flatMap vtc))(hv:∀v∈C,Ab v)(hsm:nC<=1000000)(hq:q<=10)(h1:v.round=1):Calls prog 225 #[.agg #[.int .i64 M,.int .i64 (q:Int),.slice A nC c],v.val] w (Ac w (G7 M q v C)):=by
 obtain⟨W2,hW2⟩:=ZH ((w.alloc (.cells #[.int .i64 M,.int .i64 (q:Int),.slice A nC c] 269)).alloc (.cells v.cells 46));have xB:ZN w W2:=by rw[hW2];exact((AC _ _).alloc (AB _) _).alloc (by simp) _
 have hs2:W2.heap.size=w.heap.size+1+1:=by rw[hW2];simp
 have hBc:Blk W2 w.heap.size 269 #[.int .i64 M,.int .i64 (q:Int),.slice A nC c]:=by rw[hW2];exact(Blk.new w _ _).alloc _
 have hBv:Blk W2 (w.heap.size+1) 46 v.cells:=by
  have h:=Blk.new (w.alloc (.cells #[.int .i64 M,.int .i64 (q:Int),.slice A nC c] 269)) 46 v.cells;rw[World.size_alloc]at h;rw[hW2];exact h
 have HS:Hid (∀W,ZN W2 W->Calls prog 257 #[.agg #[.int .i64 M,.int .i64 (q:Int),.slice A nC c],v.val,.func (.func 258) #[] #[(.pointer (some ⟨w.heap.size+1,0,none⟩))]] W (Ac W (Ep M q v C (Lx v)))):=fun W hW=>by
  have hW':=xB.trans (hW.mono xB.size);have BV:IX W.heap.size W (w.heap.size+1) v:=⟨by have:=hW.size;omega,hBv.below hW (by omega)⟩;exact GI M q nC A c C v _ _ _ W hn ((hr.below hW').more hW'.size) hv (S0 v (w.heap.size+1) W.heap.size W BV) hsm hq
 obtain⟨k1,hk1⟩:=ZH (decide (v.choice=0));have e1:(v.choice==0)=k1:=by rw[hk1];rfl
 obtain⟨k2,hk2⟩:=ZH (Ep M q v C (Lx v));have xt:G7 M q v C=(k1||k2):=by unfold G7;rw[if_pos h1,hk1,hk2]
 rw[<-hk2]at HS;have e0:(v.round==1)=true:=by rw[h1];rfl
 have yc:=AA xt;have HB2:=AA xB;have xR:Hid (∀W,ZN W2 W->AJ W (w.heap.size+1) 0 22=some v.cells/\W.cell? ⟨w.heap.size+1,3,none⟩=some (I v.choice)/\W.cell? ⟨w.heap.size,0,none⟩=some (.int .i64 M)/\W.cell? ⟨w.heap.size,1,none⟩=some (.int .i64 (q:Int))/\W.cell? ⟨w.heap.size,2,none⟩=some (.slice A nC c)):=fun W hW=>
  ⟨(hBv.below hW (by omega)).row 22 rfl,(hBv.below hW (by omega)).cell 3,(hBc.below hW (by omega)).cell 0,(hBc.below hW (by omega)).cell 1,(hBc.below hW (by omega)).cell 2⟩
 clear hk1 hk2 xt hn hr hv hsm hq hBc hBv xB hs2 h1;have HW:=AA hW2;clear hW2;go_enter func225,ntmps225;cases k1
 ·go_upto_region 2 with fail
  simp only[<-HW.out];obtain⟨x1,y3,y0,y1,y2⟩:=xR.out _ (AC _ _);go_wp2_with (go_at_call 257;refine(HS.out _ (AC _ _)).mono ?_;rintro en w3 ⟨rfl,hb3⟩)
  go_ret;exact⟨by rw[yc.out];rfl,HB2.out.trans (hb3.mono HB2.out.size)⟩
 ·go_upto_region 2 with fail
  simp only[<-HW.out];obtain⟨x1,y3,y0,y1,y2⟩:=xR.out _ (AC _ _);go_wp2;go_ret;exact⟨by rw[yc.out];rfl,HB2.out⟩
theorem PJ(M:Int)(q nC:Nat)(A:Option Addr)(c:Nat)(C:List Vt)(v:Vt)(w:World)(hn:C.length=nC)(hr:Rd w w.heap.size A (C.flatMap vtc))(hv:∀v∈C,Ab v)(hsm:nC<=1000000)(hq:q<=10)(h1:v.round≠1)(hrd:1<=v.round/\v.round<=12):Calls prog 225 #[.agg #[.int .i64 M,.int .i64 (q:Int),.slice A nC c],v.val] w (Ac w (G7 M q v C)):=by
 obtain⟨W0,hW0⟩:=ZH ((w.alloc (.cells #[.int .i64 M,.int .i64 (q:Int),.slice A nC c] 269)).alloc (.cells v.cells 46));have yV:ZN w W0:=by rw[hW0];exact((AC _ _).alloc (AB _) _).alloc (by simp) _
 have hs0:W0.heap.size=w.heap.size+1+1:=by rw[hW0];simp
 have hAu:Blk W0 w.heap.size 269 #[.int .i64 M,.int .i64 (q:Int),.slice A nC c]:=by rw[hW0];exact(Blk.new w _ _).alloc _
 have hAj:Blk W0 (w.heap.size+1) 46 v.cells:=by
  have h:=Blk.new (w.alloc (.cells #[.int .i64 M,.int .i64 (q:Int),.slice A nC c] 269)) 46 v.cells;rw[World.size_alloc]at h;rw[hW0];exact h
 have y9:W0.cell? ⟨w.heap.size+1,2,none⟩=some (I v.round):=hAj.cell 2;obtain⟨pf,hpf⟩:=ZH W0.heap.size;obtain⟨W1,hW1⟩:=ZH (W0.alloc (.cells #[.func (.func 259) #[] #[(.pointer (some ⟨w.heap.size+1,0,none⟩))]] 110));have hs1:W1.heap.size=pf+1:=by rw[hW1,hpf];simp
 obtain⟨pg,hpg⟩:=ZH W1.heap.size;obtain⟨W2,hW2⟩:=ZH (W1.alloc (.cells #[.func (.func 260) #[] #[(.pointer (some ⟨w.heap.size+1,0,none⟩))]] 110));have hs2:W2.heap.size=pg+1:=by rw[hW2,hpg];simp
 have zQ:ZN W0 W1:=by rw[hW1];exact(AC _ _).alloc (AB _) _
 have xd:ZN W1 W2:=by rw[hW2];exact(AC _ _).alloc (AB _) _
 have xQ:ZN w W1:=yV.trans (zQ.mono yV.size);have xB:ZN w W2:=xQ.trans (xd.mono xQ.size);have hBc:Blk W2 w.heap.size 269 #[.int .i64 M,.int .i64 (q:Int),.slice A nC c]:=(hAu.below zQ (by omega)).below xd (by omega);have hBv:Blk W2 (w.heap.size+1) 46 v.cells:=(hAj.below zQ (by omega)).below xd (by omega);have hBf:Blk W2 pf 110 #[.func (.func 259) #[] #[(.pointer (some ⟨w.heap.size+1,0,none⟩))]]:=by
  have h:=Blk.new W0 110 #[.func (.func 259) #[] #[(.pointer (some ⟨w.heap.size+1,0,none⟩))]];rw[<-hW1,<-hpf]at h;exact h.below xd (by omega)
 have hBg:Blk W2 pg 110 #[.func (.func 260) #[] #[(.pointer (some ⟨w.heap.size+1,0,none⟩))]]:=by
  have h:=Blk.new W1 110 #[.func (.func 260) #[] #[(.pointer (some ⟨w.heap.size+1,0,none⟩))]];rwa[<-hW2,<-hpg]at h
 have hFV:∀W,ZN W2 W->B5 W.heap.size W 259 #[(.pointer (some ⟨w.heap.size+1,0,none⟩))] (Mb v):=fun W hW=>VI v hrd (w.heap.size+1) W.heap.size W ⟨by have:=hW.size;omega,hBv.below hW (by omega)⟩
 have hFM:∀W,ZN W2 W->B5 W.heap.size W 260 #[(.pointer (some ⟨w.heap.size+1,0,none⟩))] (Lg v):=fun W hW=>VJ v hrd (w.heap.size+1) W.heap.size W ⟨by have:=hW.size;omega,hBv.below hW (by omega)⟩
 have hBF:∀W,ZN W2 W->Lh W.heap.size W pf 259 #[(.pointer (some ⟨w.heap.size+1,0,none⟩))]:=fun W hW=>⟨by have:=hW.size;omega,hBf.below hW (by omega)⟩
 have hBG:∀W,ZN W2 W->Lh W.heap.size W pg 260 #[(.pointer (some ⟨w.heap.size+1,0,none⟩))]:=fun W hW=>⟨by have:=hW.size;omega,hBg.below hW (by omega)⟩
 have HS1:Hid (∀W,ZN W2 W->Calls prog 257 #[.agg #[.int .i64 M,.int .i64 (q:Int),.slice A nC c],v.val,.func (.func 261) #[] #[(.pointer (some ⟨pf,0,none⟩)),(.pointer (some ⟨pg,0,none⟩))]] W (Ac W (Ep M q v C (QW v)))):=fun W hW=>by
  have hW':=xB.trans (hW.mono xB.size);have _BV:IX W.heap.size W (w.heap.size+1) v:=⟨by have:=hW.size;omega,hBv.below hW (by omega)⟩;exact GI M q nC A c C v _ _ _ W hn ((hr.below hW').more hW'.size) hv (S3 (Mb v) (Lg v) pf pg _ _ W.heap.size _ _ W (hBF W hW) (hBG W hW) (hFV W hW) (hFM W hW) (AB _)) hsm hq
 have HS2:Hid (∀W,ZN W2 W->Calls prog 257 #[.agg #[.int .i64 M,.int .i64 (q:Int),.slice A nC c],v.val,.func (.func 260) #[] #[(.pointer (some ⟨w.heap.size+1,0,none⟩))]] W (Ac W (Ep M q v C (Lg v)))):=fun W hW=>by
  have hW':=xB.trans (hW.mono xB.size);have _BV:IX W.heap.size W (w.heap.size+1) v:=⟨by have:=hW.size;omega,hBv.below hW (by omega)⟩;exact GI M q nC A c C v _ _ _ W hn ((hr.below hW').more hW'.size) hv (hFM W hW) hsm hq
 have HH1:Hid (∀W,ZN W2 W->Calls prog 222 #[.agg #[.int .i64 M,.int .i64 (q:Int),.slice A nC c],.func (.func 262) #[] #[(.pointer (some ⟨w.heap.size+1,0,none⟩)),(.pointer (some ⟨pf,0,none⟩))]] W (Ac W (C.any (pIn v)))):=fun W hW=>by
  have hW':=xB.trans (hW.mono xB.size);exact IY M q nC A c C _ _ _ W hn ((hr.below hW').more hW'.size) hv (XK v (Mb v) (w.heap.size+1) pf _ W.heap.size _ W ⟨by have:=hW.size;omega,hBv.below hW (by omega)⟩ (hBF W hW) (hFV W hW) (AB _)) hsm
 have HH2:Hid (∀W,ZN W2 W->Calls prog 222 #[.agg #[.int .i64 M,.int .i64 (q:Int),.slice A nC c],.func (.func 263) #[] #[(.pointer (some ⟨w.heap.size+1,0,none⟩))]] W (Ac W (C.any (Ly v)))):=fun W hW=>by
  have hW':=xB.trans (hW.mono xB.size);exact IY M q nC A c C _ _ _ W hn ((hr.below hW').more hW'.size) hv (S1 v hrd (w.heap.size+1) W.heap.size W ⟨by have:=hW.size;omega,hBv.below hW (by omega)⟩) hsm
 obtain⟨k1,hk1⟩:=ZH (Ep M q v C (QW v));obtain⟨k2,hk2⟩:=ZH (C.any (pIn v));obtain⟨k3,hk3⟩:=ZH (Ep M q v C (Lg v));obtain⟨k4,hk4⟩:=ZH (C.any (Ly v));have xt:G7 M q v C=((k1&&k2)||(k3&&k4)):=by unfold G7;rw[if_neg h1,hk1,hk2,hk3,hk4]
 rw[<-hk1]at HS1;rw[<-hk2]at HH1;rw[<-hk3]at HS2;rw[<-hk4]at HH2;have e0:(v.round==1)=false:=by simp[h1]
 have yc:=AA xt;have HB2:=AA xB;have xR:Hid (∀W,ZN W2 W->AJ W (w.heap.size+1) 0 22=some v.cells/\W.cell? ⟨pg,0,none⟩=some (.func (.func 260) #[] #[(.pointer (some ⟨w.heap.size+1,0,none⟩))])/\W.cell? ⟨w.heap.size,0,none⟩=some (.int .i64 M)/\W.cell? ⟨w.heap.size,1,none⟩=some (.int .i64 (q:Int))/\W.cell? ⟨w.heap.size,2,none⟩=some (.slice A nC c)):=fun W hW=>
  ⟨(hBv.below hW (by omega)).row 22 rfl,(hBg.below hW (by omega)).cell 0,(hBc.below hW (by omega)).cell 0,(hBc.below hW (by omega)).cell 1,(hBc.below hW (by omega)).cell 2⟩
 have HW0:=AA hW0;have HW1:=AA hW1;have HW2:=AA hW2;have HPf:=AA hpf;have HPg:=AA hpg;clear hk1 hk2 hk3 hk4 xt hn hr hv hsm hq hBc hBv hBf hBg xB hs2 h1 hW2 hFV hFM hBF hBG hrd hW0 hW1 hpf hpg hs0 hs1 yV xQ zQ xd hAu hAj;go_enter func225,ntmps225;go_upto_region 1 with fail
 simp only[<-HW0.out];go_upto_region 4 with fail
 simp only[<-HW1.out,<-HPf.out];go_upto_region 6 with fail
 simp only[<-HW2.out,<-HPg.out];have xC:ZN W2 W2:=AC _ _;obtain⟨x1,y3,y0,y1,y2⟩:=xR.out _ xC;cases k1
 ·clear HH1;cases k3
  ·go_wp2_with (first|(go_at_call 257;refine(HS1.out _ xC).mono ?_;rintro en wa ⟨rfl,hba⟩;replace xC:=xC.trans (hba.mono xC.size);obtain⟨x1,y3,y0,y1,y2⟩:=xR.out _ xC;clear HS1)|(go_at_call 222;refine(HH1.out _ xC).mono ?_;rintro en wa ⟨rfl,hba⟩;replace xC:=xC.trans (hba.mono xC.size);obtain⟨x1,y3,y0,y1,y2⟩:=xR.out _ xC;clear HH1)|(go_at_call 257;refine(HS2.out _ xC).mono ?_;rintro en wa ⟨rfl,hba⟩;replace xC:=xC.trans (hba.mono xC.size);obtain⟨x1,y3,y0,y1,y2⟩:=xR.out _ xC;clear HS2)|(go_at_call 222;refine(HH2.out _ xC).mono ?_;rintro en wa ⟨rfl,hba⟩;replace xC:=xC.trans (hba.mono xC.size);obtain⟨x1,y3,y0,y1,y2⟩:=xR.out _ xC;clear HH2))
   go_ret;exact⟨by rw[yc.out];rfl,HB2.out.trans (xC.mono HB2.out.size)⟩
  ·go_wp2_with (first|(go_at_call 257;refine(HS1.out _ xC).mono ?_;rintro en wa ⟨rfl,hba⟩;replace xC:=xC.trans (hba.mono xC.size);obtain⟨x1,y3,y0,y1,y2⟩:=xR.out _ xC;clear HS1)|(go_at_call 222;refine(HH1.out _ xC).mono ?_;rintro en wa ⟨rfl,hba⟩;replace xC:=xC.trans (hba.mono xC.size);obtain⟨x1,y3,y0,y1,y2⟩:=xR.out _ xC;clear HH1)|(go_at_call 257;refine(HS2.out _ xC).mono ?_;rintro en wa ⟨rfl,hba⟩;replace xC:=xC.trans (hba.mono xC.size);obtain⟨x1,y3,y0,y1,y2⟩:=xR.out _ xC;clear HS2)|(go_at_call 222;refine(HH2.out _ xC).mono ?_;rintro en wa ⟨rfl,hba⟩;replace xC:=xC.trans (hba.mono xC.size);obtain⟨x1,y3,y0,y1,y2⟩:=xR.out _ xC;clear HH2))
   go_ret;exact⟨by rw[yc.out];rfl,HB2.out.trans (xC.mono HB2.out.size)⟩
 ·skip
  cases k2
  ·skip
   cases k3
   ·go_wp2_with (first|(go_at_call 257;refine(HS1.out _ xC).mono ?_;rintro en wa ⟨rfl,hba⟩;replace xC:=xC.trans (hba.mono xC.size);obtain⟨x1,y3,y0,y1,y2⟩:=xR.out _ xC;clear HS1)|(go_at_call 222;refine(HH1.out _ xC).mono ?_;rintro en wa ⟨rfl,hba⟩;replace xC:=xC.trans (hba.mono xC.size);obtain⟨x1,y3,y0,y1,y2⟩:=xR.out _ xC;clear HH1)|(go_at_call 257;refine(HS2.out _ xC).mono ?_;rintro en wa ⟨rfl,hba⟩;replace xC:=xC.trans (hba.mono xC.size);obtain⟨x1,y3,y0,y1,y2⟩:=xR.out _ xC;clear HS2)|(go_at_call 222;refine(HH2.out _ xC).mono ?_;rintro en wa ⟨rfl,hba⟩;replace xC:=xC.trans (hba.mono xC.size);obtain⟨x1,y3,y0,y1,y2⟩:=xR.out _ xC;clear HH2))
    go_ret;exact⟨by rw[yc.out];rfl,HB2.out.trans (xC.mono HB2.out.size)⟩
   ·go_wp2_with (first|(go_at_call 257;refine(HS1.out _ xC).mono ?_;rintro en wa ⟨rfl,hba⟩;replace xC:=xC.trans (hba.mono xC.size);obtain⟨x1,y3,y0,y1,y2⟩:=xR.out _ xC;clear HS1)|(go_at_call 222;refine(HH1.out _ xC).mono ?_;rintro en wa ⟨rfl,hba⟩;replace xC:=xC.trans (hba.mono xC.size);obtain⟨x1,y3,y0,y1,y2⟩:=xR.out _ xC;clear HH1)|(go_at_call 257;refine(HS2.out _ xC).mono ?_;rintro en wa ⟨rfl,hba⟩;replace xC:=xC.trans (hba.mono xC.size);obtain⟨x1,y3,y0,y1,y2⟩:=xR.out _ xC;clear HS2)|(go_at_call 222;refine(HH2.out _ xC).mono ?_;rintro en wa ⟨rfl,hba⟩;replace xC:=xC.trans (hba.mono xC.size);obtain⟨x1,y3,y0,y1,y2⟩:=xR.out _ xC;clear HH2))
    go_ret;exact⟨by rw[yc.out];rfl,HB2.out.trans (xC.mono HB2.out.size)⟩
  ·go_wp2_with (first|(go_at_call 257;refine(HS1.out _ xC).mono ?_;rintro en wa ⟨rfl,hba⟩;replace xC:=xC.trans (hba.mono xC.size);obtain⟨x1,y3,y0,y1,y2⟩:=xR.out _ xC;clear HS1)|(go_at_call 222;refine(HH1.out _ xC).mono ?_;rintro en wa ⟨rfl,hba⟩;replace xC:=xC.trans (hba.mono xC.size);obtain⟨x1,y3,y0,y1,y2⟩:=xR.out _ xC;clear HH1)|(go_at_call 257;refine(HS2.out _ xC).mono ?_;rintro en wa ⟨rfl,hba⟩;replace xC:=xC.trans (hba.mono xC.size);obtain⟨x1,y3,y0,y1,y2⟩:=xR.out _ xC;clear HS2)|(go_at_call 222;refine(HH2.out _ xC).mono ?_;rintro en wa ⟨rfl,hba⟩;replace xC:=xC.trans (hba.mono xC.size);obtain⟨x1,y3,y0,y1,y2⟩:=xR.out _ xC;clear HH2))
   go_ret;exact⟨by rw[yc.out];rfl,HB2.out.trans (xC.mono HB2.out.size)⟩
structure S6 (n0:Nat)(I:World->Prop)(g:Nat)(lb:Array Value):Prop where
 ent:∀args W,(callFunc g args).run prog W= .ok (.enter g args) W
 tells:∀V,I V->∀v:Vt,Ab v->Calls prog g (#[v.val]++lb) V fun e w'=>∃b,e= .returned (.bool b)/\Below n0 V w'/\I w'
 stable:∀V W,I V->ZN V W->I W
theorem RY(M:Int)(q nC n0:Nat)(A:Option Addr)(c:Nat)(C:List Vt)(g:Nat)(lb:Array Value)(I:World->Prop)(w:World)(hn:C.length=nC)(hr:Rd w n0 A (C.flatMap vtc))(hn0:n0<=w.heap.size)(hv:∀v∈C,Ab v)(hf:S6 n0 I g lb)(hI:I w)(hsm:nC<=1000000):Calls prog 222 #[.agg #[.int .i64 M,.int .i64 (q:Int),.slice A nC c],.func (.func g) #[] lb] w fun e w'=>∃b,e= .returned (.bool b)/\Below n0 w w':=by
 have HN:=AA hn;have HR:=AA hr;have HV:=AA hv;have HF:=AA hf;have HI:Hid (I (w.alloc (.cells #[.int .i64 M,.int .i64 (q:Int),.slice A nC c] 269))):=hf.stable _ _ hI ((AC _ _).alloc (AB _) _);clear hn hr hv hf hI;have yV:Below n0 w (w.alloc (.cells #[.int .i64 M,.int .i64 (q:Int),.slice A nC c] 269)):=(AC _ _).alloc hn0 _;go_enter func222,ntmps222;go_wp2
 go_loopw [10] (fun iv wr=>∃i:Nat,iv= .int .i64 (i:Int)/\i<=nC/\n0<=wr.heap.size/\Hid (I wr)/\Below n0 w wr) (fun iv _=>nC-(intOf iv).toNat)
 case atStart=>exact⟨0,rfl,by omega,by simp;omega,HI,yV⟩
 case round=>
  obtain⟨i,rfl,hin,hsz,HIr,hbw⟩:=hrel;by_cases hi:i<nC
  ·have di:=ZK (show i<nC by omega)
   have ik:(i:Int)<(nC:Int):=by omega
   have hil:i<=1000000:=by omega
   obtain⟨v,hvi⟩:∃v,C[i]? =some v:=⟨_,AD (by rw[HN.out];exact hi)⟩;obtain⟨b,o,rfl,hb,xH⟩:=HR.out.cells (by intro e;have:=AY vtc 22 C (Cd C);rw[e,HN.out]at this;simp at this;omega);clear xH;have x1:AJ wr b (o+i*22) 22=some v.cells:=(HR.out.below hbw).voteRow hvi;have HP:=AA HF.out.tells;have eg:=HF.out.ent;have HVv:=AA (HV.out v (AM hvi));clear hvi;go_upto_region 4 with(refine AI rfl 46 (.tmp 6) (.tmp 13) rfl wr.heap.size v.cells rfl rfl 46 Bi.cells (Blk.new wr _ _) (by rfl) (by kernel_rfl) (fun u hu=>BO v hu) ?_;intro w4 hB4 hg4 xc)
   have yP:ZN wr w4:=((AC _ _).alloc (AB _) _).grown hg4 (by simp) (ZJ (AB _));have HI4:Hid (I w4):=HF.out.stable _ _ HIr.out yP;have xE:Below n0 w w4:=hbw.trans (yP.mono hsz);have x4:=hB4.row 22 rfl;clear x1 hB4 hg4 xc;try go_frame
   go_wp2_with fail
   refine(HP.out _ HI4.out v HVv.out).mono ?_;rintro en w5 ⟨pv,rfl,hb5,hI5⟩;have HI5:=AA hI5;clear hI5;have xP:=xE.trans hb5;have hs5:n0<=w5.heap.size:=AG (AG hsz yP.size) hb5.size;cases pv with
   |true=>
    go_wp2;go_ret;exact⟨true,rfl,xP⟩
   |false=>
    go_wp2;go_roundw
    case rel=>exact⟨i+1,by go_num,by omega,hs5,HI5,xP⟩
    case measure=>simp[intOf];omega
  ·have di:=ZL (show nC<=i by omega)
   go_wp2;go_ret;exact⟨false,rfl,hbw⟩
def Nb(n0:Nat)(W0:World)(V:World):Prop:=Below n0 W0 V/\∃f,Blk V n0 296 #[.pointer f]/\(f=none∨∃b u,f=some ⟨b,0,none⟩/\b≠n0/\Blk V b 46 (Vt.cells u))
theorem Nb.stable{n0:Nat}{W0 V W:World}(hn:n0<=W0.heap.size)(h:Nb n0 W0 V)(hb:ZN V W):Nb n0 W0 W:=by
 obtain⟨h1,f,h2,h3⟩:=h;refine⟨h1.trans (hb.mono (AG hn h1.size)),f,h2.below hb h2.lt,?_⟩;rcases h3 with h3|⟨b,u,h4,h5,h6⟩
 ·exact .inl h3
 ·exact .inr ⟨b,u,h4,h5,h6.below hb h6.lt⟩
theorem S7(v:Vt)(b1 b2 n0:Nat)(W0:World)(h1:Lh n0 W0 b1 264 #[.pointer (some ⟨b2,0,none⟩)])(h2:IX n0 W0 b2 v)(hn:n0<=W0.heap.size):S6 n0 (Nb n0 W0) 266 #[.pointer (some ⟨b1,0,none⟩),.pointer (some ⟨b2,0,none⟩),.pointer (some ⟨n0,0,none⟩)]:=by
 refine⟨enters_of func266 (by kernel_rfl) rfl,fun V hV u hu=>?_,fun V W h hb=>h.stable hn hb⟩;have HV:=AA hV;obtain⟨hV0,f,hBf,hf⟩:=hV;have hBY:n0<V.heap.size:=hBf.lt;obtain⟨V1,hV1⟩:=ZH (V.alloc (Obj.cells u.cells 46));have hb1:ZN V V1:=by rw[hV1];exact(AC _ _).alloc (AB _) _
 have hs1:V1.heap.size=V.heap.size+1:=by rw[hV1];simp
 have hBu:Blk V1 V.heap.size 46 u.cells:=by rw[hV1];exact Blk.new _ _ _
 have hF:B5 n0 W0 264 #[.pointer (some ⟨b2,0,none⟩)] (JD v):=Mc v b2 n0 W0 h2;have HP:Hid (∀W,ZN V1 W->Calls prog 264 #[u.val,.pointer (some ⟨b2,0,none⟩)] W (Ac W (JD v u))):=fun W hW=>hF.tells W (hV0.trans ((hb1.trans (hW.mono hb1.size)).mono (Nat.le_of_lt hBY))) u hu
 have HA:Hid (∀W,Calls prog 19 #[.int .i64 v.support,.int .i64 u.signer] W fun e w'=>e= .returned (.bool ((xOf v.support).testBit u.signer.toNat))/\w'=W):=fun W=>Do _ _ hu.2.1.1 hu.2.1.2 W
 have xR:Hid (∀W,ZN V1 W->Below n0 V W/\W.cell? ⟨b1,0,none⟩=some (.func (.func 264) #[] #[.pointer (some ⟨b2,0,none⟩)])/\W.cell? ⟨b2,5,none⟩=some (I v.support)/\AJ W V.heap.size 0 22=some u.cells/\W.cell? ⟨V.heap.size,4,none⟩=some (I u.signer)/\Blk W V.heap.size 46 u.cells/\W.cell? ⟨n0,0,none⟩=some (.pointer f)/\W.frozen? ⟨n0,0,none⟩=false/\Blk W n0 296 #[.pointer f]/\W.heap.size≥V.heap.size+1/\Nb n0 W0 W):=fun W hW=>by
  have hVW:ZN V W:=hb1.trans (hW.mono hb1.size);have hVn:=hVW.mono (Nat.le_of_lt hBY);have hB:=hBu.below hW (by omega);have hBn:=hBf.below hVW hBY;exact⟨hVn,(h1.below (hV0.trans hVn)).cell 0,(h2.below (hV0.trans hVn)).cell 5,hB.row 22 rfl,hB.cell 4,hB,hBn.cell 0,hBn.frozen 0,hBn,by have:=hW.size;omega,HV.out.stable hn hVW⟩
 obtain⟨k1,hk1⟩:=ZH (JD v u);obtain⟨k2,hk2⟩:=ZH ((xOf v.support).testBit u.signer.toNat);rw[<-hk1]at HP;rw[<-hk2]at HA;have HS:Hid (∀(x:Vt) W,Calls prog 224 #[x.val,u.val] W (Ac W (Cl x u))):=fun x W=>EP x u W
 have HW:=AA hV1;have HFp:=AA hf;have HB0:Hid (f=none∨∃b x,f=some ⟨b,0,none⟩/\b≠n0/\∀W,ZN V W->Blk W b 46 (Vt.cells x)):=by
  rcases hf with hf|⟨b,x,h4,h5,h6⟩
  ·exact .inl hf
  ·exact .inr ⟨b,x,h4,h5,fun W hW=>h6.below hW h6.lt⟩
 have hGu:=AA hb1;have HV0:=AA hV0;have hltn:=hBY;clear hk1 hk2 hF hBu hb1 hs1 hV1 hf hV0 hBf h1 h2 hu hBY;go_enter func266,ntmps266;go_upto_region 1 with fail
 simp only[<-HW.out];have xC:ZN V1 V1:=AC _ _;obtain⟨hn0,y1,y2,x1,y3,hBu,y4,y5,hB4,hs4,hI⟩:=xR.out _ xC;have HBu:=AA hBu;have HB4:=AA hB4;have HI:=AA hI;clear hBu hB4 hI;cases k1
 ·go_wp2_with (go_at_call 264;refine(HP.out _ xC).mono ?_;rintro en wa ⟨rfl,hba⟩;replace xC:=xC.trans (hba.mono xC.size))
  go_ret;have h:=xR.out _ xC;exact⟨false,rfl,h.1,h.2.2.2.2.2.2.2.2.2.2⟩
 ·go_wp2_with fail
  refine(HP.out _ xC).mono ?_;rintro en wa ⟨rfl,hba⟩;replace xC:=xC.trans (hba.mono xC.size);clear hn0 y1 y2 x1 y3 HBu y4 y5 HB4 hs4 HI hba;obtain⟨hn0,y1,y2,x1,y3,hBu,y4,y5,hB4,hs4,hI⟩:=xR.out _ xC;have HBu:=AA hBu;have HB4:=AA hB4;have HI:=AA hI;clear hBu hB4 hI;cases k2
  ·go_wp2_with (go_at_call 19;refine(HA.out _).mono ?_;rintro en w2 ⟨rfl,hw2⟩;replace hw2:=hw2.symm;subst hw2)
   go_ret;exact⟨false,rfl,hn0,HI.out⟩
  ·rcases HB0.out with hf|⟨b,x,hf,hbn,hBx⟩
   ·subst hf;go_upto_region 5 with(go_at_call 19;refine(HA.out _).mono ?_;rintro en w2 ⟨rfl,hw2⟩;replace hw2:=hw2.symm;subst hw2)
    obtain⟨ws,hws⟩:=ZH (wa.setCell ⟨n0,0,none⟩ (.pointer (some ⟨V.heap.size,0,none⟩)));have hB5:Blk ws n0 296 #[.pointer (some ⟨V.heap.size,0,none⟩)]:=by rw[hws];exact HB4.out.put 0 _
    have hDo:Blk ws V.heap.size 46 u.cells:=by rw[hws];exact HBu.out.far (by show V.heap.size≠n0;omega) _
    have hbs:Below n0 V ws:=by rw[hws];exact hn0.setCell (p:=⟨n0,0,none⟩) (AB _) _
    have hss:V.heap.size<ws.heap.size:=hDo.lt;simp only[<-hws];have HBs:=AA hbs;have HF5:Hid (∀W,ZN ws W->W.cell? ⟨n0,0,none⟩=some (.pointer (some ⟨V.heap.size,0,none⟩))/\AJ W V.heap.size 0 22=some u.cells):=fun W hW=>⟨(hB5.below hW hB5.lt).cell 0,(hDo.below hW hss).row 22 rfl⟩
    have HE:Hid (∀W,ZN ws W->Nb n0 W0 W):=fun W hW=>⟨HV0.out.trans (hbs.trans (hW.mono (by omega))),_,hB5.below hW hB5.lt,.inr ⟨V.heap.size,u,rfl,by omega,hDo.below hW hss⟩⟩
    have hr0:ZN ws ws:=AC _ _;clear hws hB5 hDo hbs y1 y2 x1 y3 HBu y4 y5 HB4 hs4 HI hn0 xC;refine rgD (fun W=>W.cell? ⟨n0,0,none⟩=some (.pointer (some ⟨V.heap.size,0,none⟩))/\AJ W V.heap.size 0 22=some u.cells) (HF5.out _ hr0.drew) fun _=>?_
    iterate 4 (refine tkA ?_;go_frame)
    refine rd1 4 fun K hK=>?_
    go_simp;refine(HS.out u _).mono ?_;rintro en w6 ⟨rfl,hb6⟩;have xY:=hr0.drew.trans (hb6.mono (AB _));go_wp2_with fail
    refine hK.out _ _ (HF5.out _ xY) (fun _=>?_);clear hK K;try go_frame
    iterate 2 (refine tkA ?_;go_frame)
    refine dnD ?_;go_wp2;go_ret;exact⟨_,rfl,HBs.out.trans (xY.mono (by omega)),HE.out _ xY⟩
   ·subst hf;go_upto_region 5 with(go_at_call 19;refine(HA.out _).mono ?_;rintro en w2 ⟨rfl,hw2⟩;replace hw2:=hw2.symm;subst hw2)
    have hVa:ZN V wa:=hGu.out.trans (xC.mono hGu.out.size);have HVa:=AA hVa;have HN0:=AA hn0;have HF5:Hid (∀W,ZN wa W->W.cell? ⟨n0,0,none⟩=some (.pointer (some ⟨b,0,none⟩))/\AJ W b 0 22=some (Vt.cells x)/\AJ W V.heap.size 0 22=some u.cells):=fun W hW=>⟨(HB4.out.below hW HB4.out.lt).cell 0,(hBx W (hVa.trans (hW.mono hVa.size))).row 22 rfl,(HBu.out.below hW HBu.out.lt).row 22 rfl⟩
    have HE:Hid (∀W,ZN wa W->Nb n0 W0 W):=fun W hW=>HI.out.stable hn hW
    have hna:n0<=wa.heap.size:=AG (Nat.le_of_lt hltn) hVa.size;have hr0:ZN wa wa:=AC _ _;clear hBx y1 y2 x1 y3 HBu y4 y5 HB4 hs4 HI hn0 xC hVa;refine rgD (fun W=>W.cell? ⟨n0,0,none⟩=some (.pointer (some ⟨b,0,none⟩))/\AJ W b 0 22=some (Vt.cells x)/\AJ W V.heap.size 0 22=some u.cells) (HF5.out _ hr0.drew) fun _=>?_
    iterate 4 (refine tkA ?_;go_frame)
    refine rd1 4 fun K hK=>?_
    go_simp;refine(HS.out x _).mono ?_;rintro en w6 ⟨rfl,hb6⟩;have xY:=hr0.drew.trans (hb6.mono (AB _));go_wp2_with fail
    refine hK.out _ _ (HF5.out _ xY) (fun _=>?_);clear hK K;try go_frame
    iterate 2 (refine tkA ?_;go_frame)
    refine dnD ?_;go_wp2;go_ret;exact⟨_,rfl,HN0.out.trans (xY.mono hna),HE.out _ xY⟩
theorem PK(M:Int)(q nC:Nat)(A:Option Addr)(c:Nat)(C:List Vt)(v:Vt)(w:World)(hn:C.length=nC)(hr:Rd w w.heap.size A (C.flatMap vtc))(hv:∀v∈C,Ab v)(hsm:nC<=1000000)(hq:q<=10)(h1:v.choice≠2):Calls prog 226 #[.agg #[.int .i64 M,.int .i64 (q:Int),.slice A nC c],v.val] w (Ac w (Ep M q v C (KU v))):=by
 obtain⟨W0,hW0⟩:=ZH ((w.alloc (.cells #[.int .i64 M,.int .i64 (q:Int),.slice A nC c] 269)).alloc (.cells v.cells 46));have yV:ZN w W0:=by rw[hW0];exact((AC _ _).alloc (AB _) _).alloc (by simp) _
 have hs0:W0.heap.size=w.heap.size+1+1:=by rw[hW0];simp
 have hAu:Blk W0 w.heap.size 269 #[.int .i64 M,.int .i64 (q:Int),.slice A nC c]:=by rw[hW0];exact(Blk.new w _ _).alloc _
 have hAj:Blk W0 (w.heap.size+1) 46 v.cells:=by
  have h:=Blk.new (w.alloc (.cells #[.int .i64 M,.int .i64 (q:Int),.slice A nC c] 269)) 46 v.cells;rw[World.size_alloc]at h;rw[hW0];exact h
 obtain⟨pf,hpf⟩:=ZH W0.heap.size;obtain⟨W2,hW2⟩:=ZH (W0.alloc (.cells #[.func (.func 264) #[] #[(.pointer (some ⟨w.heap.size+1,0,none⟩))]] 110));have hs2:W2.heap.size=pf+1:=by rw[hW2,hpf];simp
 have zC:ZN W0 W2:=by rw[hW2];exact(AC _ _).alloc (AB _) _
 have xB:ZN w W2:=yV.trans (zC.mono yV.size);have hBc:Blk W2 w.heap.size 269 #[.int .i64 M,.int .i64 (q:Int),.slice A nC c]:=hAu.below zC (by omega);have hBv:Blk W2 (w.heap.size+1) 46 v.cells:=hAj.below zC (by omega);have hBf:Blk W2 pf 110 #[.func (.func 264) #[] #[(.pointer (some ⟨w.heap.size+1,0,none⟩))]]:=by
  have h:=Blk.new W0 110 #[.func (.func 264) #[] #[(.pointer (some ⟨w.heap.size+1,0,none⟩))]];rwa[<-hW2,<-hpf]at h
 have hFR:∀W,ZN W2 W->B5 W.heap.size W 264 #[(.pointer (some ⟨w.heap.size+1,0,none⟩))] (JD v):=fun W hW=>Mc v (w.heap.size+1) W.heap.size W ⟨by have:=hW.size;omega,hBv.below hW (by omega)⟩
 have HS1:Hid (∀W,ZN W2 W->Calls prog 257 #[.agg #[.int .i64 M,.int .i64 (q:Int),.slice A nC c],v.val,.func (.func 265) #[] #[(.pointer (some ⟨pf,0,none⟩)),(.pointer (some ⟨w.heap.size+1,0,none⟩))]] W (Ac W (Ep M q v C (KU v)))):=fun W hW=>by
  have hW':=xB.trans (hW.mono xB.size);exact GI M q nC A c C v _ _ _ W hn ((hr.below hW').more hW'.size) hv (S4 v (JD v) pf (w.heap.size+1) _ W.heap.size _ W ⟨by have:=hW.size;omega,hBf.below hW (by omega)⟩ ⟨by have:=hW.size;omega,hBv.below hW (by omega)⟩ (hFR W hW) (AB _)) hsm hq
 obtain⟨k1,hk1⟩:=ZH (Ep M q v C (KU v));rw[<-hk1]at HS1 ⊢;have e0:(v.choice==2)=false:=by simp[h1]
 have e1:(v.choice !=2)=true:=by rw[bne,e0];rfl
 have xR:Hid (∀W,ZN W2 W->AJ W (w.heap.size+1) 0 22=some v.cells/\W.cell? ⟨w.heap.size+1,3,none⟩=some (I v.choice)/\W.cell? ⟨pf,0,none⟩=some (.func (.func 264) #[] #[(.pointer (some ⟨w.heap.size+1,0,none⟩))])/\W.cell? ⟨w.heap.size,0,none⟩=some (.int .i64 M)/\W.cell? ⟨w.heap.size,1,none⟩=some (.int .i64 (q:Int))/\W.cell? ⟨w.heap.size,2,none⟩=some (.slice A nC c)):=fun W hW=>
  ⟨(hBv.below hW (by omega)).row 22 rfl,(hBv.below hW (by omega)).cell 3,(hBf.below hW (by omega)).cell 0,(hBc.below hW (by omega)).cell 0,(hBc.below hW (by omega)).cell 1,(hBc.below hW (by omega)).cell 2⟩
 have HW0:=AA hW0;have HW2:=AA hW2;have HPf:=AA hpf;have HB2:=AA xB;clear hk1 hn hr hv hsm hq hBc hBv hBf xB hs2 h1 hW2 hFR hW0 hpf hs0 yV zC hAu hAj;go_enter func226,ntmps226;go_upto_region 1 with fail
 simp only[<-HW0.out];go_upto_region 2 with fail
 simp only[<-HW2.out,<-HPf.out];have xC:ZN W2 W2:=AC _ _;obtain⟨x1,y3,y4,y0,y1,y2⟩:=xR.out _ xC;go_wp2_with (go_at_call 257;refine(HS1.out _ xC).mono ?_;rintro en wa ⟨rfl,hba⟩;replace xC:=xC.trans (hba.mono xC.size))
 go_ret;exact⟨rfl,HB2.out.trans (xC.mono HB2.out.size)⟩
theorem PM(M:Int)(q nC:Nat)(A:Option Addr)(c:Nat)(C:List Vt)(v:Vt)(w:World)(hn:C.length=nC)(hr:Rd w w.heap.size A (C.flatMap vtc))(hv:∀v∈C,Ab v)(hsm:nC<=1000000)(hq:q<=10)(h1:v.choice=2):Calls prog 226 #[.agg #[.int .i64 M,.int .i64 (q:Int),.slice A nC c],v.val] w fun e w'=>∃b,e= .returned (.bool b)/\ZN w w':=by
 obtain⟨W0,hW0⟩:=ZH ((w.alloc (.cells #[.int .i64 M,.int .i64 (q:Int),.slice A nC c] 269)).alloc (.cells v.cells 46));have yV:ZN w W0:=by rw[hW0];exact((AC _ _).alloc (AB _) _).alloc (by simp) _
 have hs0:W0.heap.size=w.heap.size+1+1:=by rw[hW0];simp
 have hAu:Blk W0 w.heap.size 269 #[.int .i64 M,.int .i64 (q:Int),.slice A nC c]:=by rw[hW0];exact(Blk.new w _ _).alloc _
 have hAj:Blk W0 (w.heap.size+1) 46 v.cells:=by
  have h:=Blk.new (w.alloc (.cells #[.int .i64 M,.int .i64 (q:Int),.slice A nC c] 269)) 46 v.cells;rw[World.size_alloc]at h;rw[hW0];exact h
 obtain⟨pf,hpf⟩:=ZH W0.heap.size;obtain⟨W2,hW2⟩:=ZH (W0.alloc (.cells #[.func (.func 264) #[] #[(.pointer (some ⟨w.heap.size+1,0,none⟩))]] 110));have hs2:W2.heap.size=pf+1:=by rw[hW2,hpf];simp
 have zC:ZN W0 W2:=by rw[hW2];exact(AC _ _).alloc (AB _) _
 have xB:ZN w W2:=yV.trans (zC.mono yV.size);have hBc:Blk W2 w.heap.size 269 #[.int .i64 M,.int .i64 (q:Int),.slice A nC c]:=hAu.below zC (by omega);have hBv:Blk W2 (w.heap.size+1) 46 v.cells:=hAj.below zC (by omega);have hBf:Blk W2 pf 110 #[.func (.func 264) #[] #[(.pointer (some ⟨w.heap.size+1,0,none⟩))]]:=by
  have h:=Blk.new W0 110 #[.func (.func 264) #[] #[(.pointer (some ⟨w.heap.size+1,0,none⟩))]];rwa[<-hW2,<-hpf]at h
 have hFR:∀W,ZN W2 W->B5 W.heap.size W 264 #[(.pointer (some ⟨w.heap.size+1,0,none⟩))] (JD v):=fun W hW=>Mc v (w.heap.size+1) W.heap.size W ⟨by have:=hW.size;omega,hBv.below hW (by omega)⟩
 have HS1:Hid (∀W,ZN W2 W->Calls prog 257 #[.agg #[.int .i64 M,.int .i64 (q:Int),.slice A nC c],v.val,.func (.func 264) #[] #[(.pointer (some ⟨w.heap.size+1,0,none⟩))]] W (Ac W (Ep M q v C (JD v)))):=fun W hW=>by
  have hW':=xB.trans (hW.mono xB.size);exact GI M q nC A c C v _ _ _ W hn ((hr.below hW').more hW'.size) hv (hFR W hW) hsm hq
 have HH:Hid (∀W n0,ZN W2 W->n0=W.heap.size->Calls prog 222 #[.agg #[.int .i64 M,.int .i64 (q:Int),.slice A nC c],.func (.func 266) #[] #[(.pointer (some ⟨pf,0,none⟩)),(.pointer (some ⟨w.heap.size+1,0,none⟩)),.pointer (some ⟨n0,0,none⟩)]] (W.alloc (.cells #[.pointer none] 296)) fun e w'=>∃b,e= .returned (.bool b)/\Below n0 (W.alloc (.cells #[.pointer none] 296)) w'):=fun W n0 hW hn0=>by
  subst hn0;have hWa:ZN W2 (W.alloc (.cells #[.pointer none] 296)):=hW.alloc hW.size _;have hW':=xB.trans (hWa.mono xB.size);have hsz:=hW.size;refine RY M q nC W.heap.size A c C _ _ (Nb W.heap.size (W.alloc (.cells #[.pointer none] 296))) _ hn ((hr.below hW').more (by omega)) (by simp) hv (S7 v pf (w.heap.size+1) W.heap.size _ ⟨by omega,hBf.below hWa (by omega)⟩ ⟨by omega,hBv.below hWa (by omega)⟩ (by simp)) ⟨AC _ _,none,Blk.new _ _ _,.inl rfl⟩ hsm
 obtain⟨k1,hk1⟩:=ZH (Ep M q v C (JD v));rw[<-hk1]at HS1;have e0:(v.choice==2)=true:=by rw[h1];rfl
 have e1:(v.choice !=2)=false:=by rw[bne,e0];rfl
 have xR:Hid (∀W,ZN W2 W->AJ W (w.heap.size+1) 0 22=some v.cells/\W.cell? ⟨w.heap.size+1,3,none⟩=some (I v.choice)/\W.cell? ⟨pf,0,none⟩=some (.func (.func 264) #[] #[(.pointer (some ⟨w.heap.size+1,0,none⟩))])/\W.cell? ⟨w.heap.size,0,none⟩=some (.int .i64 M)/\W.cell? ⟨w.heap.size,1,none⟩=some (.int .i64 (q:Int))/\W.cell? ⟨w.heap.size,2,none⟩=some (.slice A nC c)):=fun W hW=>
  ⟨(hBv.below hW (by omega)).row 22 rfl,(hBv.below hW (by omega)).cell 3,(hBf.below hW (by omega)).cell 0,(hBc.below hW (by omega)).cell 0,(hBc.below hW (by omega)).cell 1,(hBc.below hW (by omega)).cell 2⟩
 have HW0:=AA hW0;have HW2:=AA hW2;have HPf:=AA hpf;have HB2:=AA xB;clear hk1 hn hr hv hsm hq hBc hBv hBf xB hs2 h1 hW2 hFR hW0 hpf hs0 yV zC hAu hAj;go_enter func226,ntmps226;go_upto_region 1 with fail
 simp only[<-HW0.out];go_upto_region 2 with fail
 simp only[<-HW2.out,<-HPf.out];have xC:ZN W2 W2:=AC _ _;obtain⟨x1,y3,y4,y0,y1,y2⟩:=xR.out _ xC;cases k1
 ·go_wp2_with (go_at_call 257;refine(HS1.out _ xC).mono ?_;rintro en wa ⟨rfl,hba⟩;replace xC:=xC.trans (hba.mono xC.size))
  go_ret;exact⟨false,rfl,HB2.out.trans (xC.mono HB2.out.size)⟩
 ·go_upto_region 7 with(go_at_call 257;refine(HS1.out _ xC).mono ?_;rintro en wa ⟨rfl,hba⟩;replace xC:=xC.trans (hba.mono xC.size);obtain⟨x1,y3,y4,y0,y1,y2⟩:=xR.out _ xC)
  clear x1 y3 y4 y0 y1 y2;obtain⟨x1,y3,y4,y0,y1,y2⟩:=xR.out _ (xC.alloc xC.size (.cells #[.pointer none] 296));go_wp2_with (go_at_call 222;refine(HH.out wa wa.heap.size xC rfl).mono ?_;rintro en wb ⟨k,rfl,hbb⟩)
  go_ret;have hb:=HB2.out.trans (xC.mono HB2.out.size);exact⟨k,rfl,(hb.alloc hb.size _).trans (hbb.mono hb.size)⟩
end
end Go.Proofs.YtadllffeoibelaaGreat
