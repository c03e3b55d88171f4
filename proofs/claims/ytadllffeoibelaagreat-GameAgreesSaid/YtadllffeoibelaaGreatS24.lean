/-
  What these parts of the proof come to, functions walked and plain laws: Jus2. No condition.
-/
import Derived.Test.YtadllffeoibelaaGreatS23
import Derived.Test.YtadllffeoibelaaGreatS6
namespace Go.Proofs.YtadllffeoibelaaGreat
set_option maxRecDepth 100000
set_option maxHeartbeats 32000000
set_option linter.all false
section
open Go.RowKit Go.Shelf
attribute [local go_sem ↓] Go.wp_at_zero Go.wp_at_succ An Au Av Aw
attribute [local go_sem] BD BH BI BJ AN AW AQ
def Jg(n0:Nat)(W0:World)(b g:Nat)(lb:Array Value):Prop:=b<n0∧Blk W0 b 110 #[.func (.func g) #[] lb]
theorem Jg.below{n0:Nat}{W0 V:World}{b g:Nat}{lb:Array Value}(h:Jg n0 W0 b g lb)(hV:Below n0 W0 V):Blk V b 110 #[.func (.func g) #[] lb]:=h.2.below hV h.1
theorem DO(M i:Int)(h0:0≤i)(h9:i≤9)(w:World):Calls Tryz.prog 19 #[.int .i64 M,.int .i64 i] w fun e w'=>e= .returned (.bool ((xOf M).testBit i.toNat))∧w'=w:=by
 obtain⟨n,rfl⟩:∃n:Nat,i=(n:Int):=⟨i.toNat,by omega⟩;rw[Int.toNat_natCast];exact Dv M n (by omega) w
theorem RX(i:Nat)(p:Vt→Bool)(bi bf g n0:Nat)(lb:Array Value)(W0:World)(hi:bi<n0∧Blk W0 bi 3 #[.int .i64 (i:Int)])(hf:Jg n0 W0 bf g lb)(hF:By n0 W0 g lb p)(hn:n0≤W0.heap.size):By n0 W0 278 #[.pointer (some ⟨bi,0,none⟩),.pointer (some ⟨bf,0,none⟩)] (fun w=>decide (w.signer=(i:Int))&&p w):=by
 refine⟨enters_of Tryz.func278 (by kernel_rfl) rfl,fun V hV u hu=>?_⟩;have hbw:Below V.heap.size V (V.alloc (Obj.cells u.cells 46)):=(AC _ _).alloc (AB _) _;have x1:=(Blk.new V 46 u.cells).row 22 rfl;have c1:(V.alloc (Obj.cells u.cells 46)).cell? ⟨bi,0,none⟩=some (.int .i64 (i:Int)):=((hi.2.below hV hi.1).alloc _).cell 0;have c2:(V.alloc (Obj.cells u.cells 46)).cell? ⟨bf,0,none⟩=some (.func (.func g) #[] lb):=((hf.below hV).alloc _).cell 0;have HP:Hid (∀W,Below V.heap.size V W→Calls Tryz.prog g (#[u.val]++lb) W (Al W (p u))):=fun W hW=>hF.tells W (hV.trans (hW.mono (AF hn hV.size))) u hu
 have eg:=hF.ent;obtain⟨k1,hk1⟩:∃k,k=decide (u.signer=(i:Int)):=⟨_,rfl⟩;obtain⟨k2,hk2⟩:∃k,k=p u:=⟨_,rfl⟩;have e1:(u.signer==(i:Int))=k1:=by rw[hk1];rfl
 rw[←hk1,←hk2];rw[←hk2]at HP;clear hk1 hk2 hu hi hf hF hn hV;cases k1
 ·go_enter Tryz.func278,Tryz.ntmps278;go_wp2;go_ret;exact⟨rfl,hbw⟩
 ·go_enter Tryz.func278,Tryz.ntmps278;go_wp2_with fail
  refine(HP.out _ hbw).mono ?_;rintro en w2 ⟨rfl,hb2⟩;go_wp2;go_ret;exact⟨rfl,hbw.trans (hb2.mono hbw.size)⟩
theorem Pt(p1 p2:Vt→Bool)(b1 b2 g1 g2 n0:Nat)(l1 l2:Array Value)(W0:World)(h1:Jg n0 W0 b1 g1 l1)(h2:Jg n0 W0 b2 g2 l2)(hF1:By n0 W0 g1 l1 p1)(hF2:By n0 W0 g2 l2 p2)(hn:n0≤W0.heap.size):By n0 W0 261 #[.pointer (some ⟨b1,0,none⟩),.pointer (some ⟨b2,0,none⟩)] (fun w=>p1 w||p2 w):=by
 refine⟨enters_of Tryz.func261 (by kernel_rfl) rfl,fun V hV u hu=>?_⟩;have hbw:Below V.heap.size V (V.alloc (Obj.cells u.cells 46)):=(AC _ _).alloc (AB _) _;have hB:=Blk.new V 46 u.cells;have x1:=hB.row 22 rfl;have c1:(V.alloc (Obj.cells u.cells 46)).cell? ⟨b1,0,none⟩=some (.func (.func g1) #[] l1):=((h1.below hV).alloc _).cell 0;have HP1:Hid (∀W,Below V.heap.size V W→Calls Tryz.prog g1 (#[u.val]++l1) W (Al W (p1 u))):=fun W hW=>hF1.tells W (hV.trans (hW.mono (AF hn hV.size))) u hu
 have HP2:Hid (∀W,Below V.heap.size V W→Calls Tryz.prog g2 (#[u.val]++l2) W (Al W (p2 u))):=fun W hW=>hF2.tells W (hV.trans (hW.mono (AF hn hV.size))) u hu
 have HC2:Hid (∀W,Below V.heap.size V W→W.cell? ⟨b2,0,none⟩=some (.func (.func g2) #[] l2)):=fun W hW=>(h2.below (hV.trans (hW.mono (AF hn hV.size)))).cell 0
 have HX:Hid (∀W,Below (V.alloc (Obj.cells u.cells 46)).heap.size (V.alloc (Obj.cells u.cells 46)) W→AK W V.heap.size 0 22=some u.cells):=fun W hW=>(hB.below hW hB.lt).row 22 rfl
 have eg1:=hF1.ent;have eg2:=hF2.ent;obtain⟨k1,hk1⟩:∃k,k=p1 u:=⟨_,rfl⟩;obtain⟨k2,hk2⟩:∃k,k=p2 u:=⟨_,rfl⟩;rw[←hk1,←hk2];rw[←hk1]at HP1;rw[←hk2]at HP2;clear hk1 hk2 hu h1 h2 hF1 hF2 hn hV hB;go_enter Tryz.func261,Tryz.ntmps261;go_wp2_with fail
 refine(HP1.out _ hbw).mono ?_;rintro en w2 ⟨rfl,hb2⟩;have hbw2:=hbw.trans (hb2.mono hbw.size);have x2:=HX.out _ hb2;have c2:=HC2.out _ hbw2;clear x1 c1;cases k1
 ·go_wp2_with fail
  refine(HP2.out _ hbw2).mono ?_;rintro en w3 ⟨rfl,hb3⟩;go_wp2;go_ret;exact⟨rfl,hbw2.trans (hb3.mono hbw2.size)⟩
 ·go_wp2;go_ret;exact⟨rfl,hbw2⟩
theorem Sz(v:Vt)(p:Vt→Bool)(b1 b2 g n0:Nat)(lb:Array Value)(W0:World)(h1:GU n0 W0 b1 v)(h2:Jg n0 W0 b2 g lb)(hF:By n0 W0 g lb p)(hn:n0≤W0.heap.size):By n0 W0 262 #[.pointer (some ⟨b1,0,none⟩),.pointer (some ⟨b2,0,none⟩)] (fun w=>(xOf v.support).testBit w.signer.toNat&&p w):=by
 refine⟨enters_of Tryz.func262 (by kernel_rfl) rfl,fun V hV u hu=>?_⟩;have hbw:Below V.heap.size V (V.alloc (Obj.cells u.cells 46)):=(AC _ _).alloc (AB _) _;have x1:=(Blk.new V 46 u.cells).row 22 rfl;have c1:(V.alloc (Obj.cells u.cells 46)).cell? ⟨b1,5,none⟩=some (I v.support):=((h1.below hV).alloc _).cell 5;have c2:(V.alloc (Obj.cells u.cells 46)).cell? ⟨b2,0,none⟩=some (.func (.func g) #[] lb):=((h2.below hV).alloc _).cell 0;have HP:Hid (∀W,Below V.heap.size V W→Calls Tryz.prog g (#[u.val]++lb) W (Al W (p u))):=fun W hW=>hF.tells W (hV.trans (hW.mono (AF hn hV.size))) u hu
 have HA:Hid (∀W,Calls Tryz.prog 19 #[.int .i64 v.support,.int .i64 u.signer] W fun e w'=>e= .returned (.bool ((xOf v.support).testBit u.signer.toNat))∧w'=W):=fun W=>DO _ _ hu.2.1.1 hu.2.1.2 W
 have eg:=hF.ent;obtain⟨k1,hk1⟩:∃k,k=(xOf v.support).testBit u.signer.toNat:=⟨_,rfl⟩;obtain⟨k2,hk2⟩:∃k,k=p u:=⟨_,rfl⟩;rw[←hk1,←hk2];rw[←hk1]at HA;rw[←hk2]at HP;clear hk1 hk2 hu h1 h2 hF hn hV;cases k1
 ·go_enter Tryz.func262,Tryz.ntmps262;go_wp2_with (go_at_call 19;refine(HA.out _).mono ?_;rintro en w2 ⟨rfl,hw2⟩;replace hw2:=hw2.symm;subst hw2)
  go_ret;exact⟨rfl,hbw⟩
 ·go_enter Tryz.func262,Tryz.ntmps262;go_wp2_with (go_at_call 19;refine(HA.out _).mono ?_;rintro en w2 ⟨rfl,hw2⟩;replace hw2:=hw2.symm;subst hw2)
  refine(HP.out _ hbw).mono ?_;rintro en w3 ⟨rfl,hb3⟩;go_wp2;go_ret;exact⟨rfl,hbw.trans (hb3.mono hbw.size)⟩
theorem Pu(v:Vt)(p:Vt→Bool)(b1 b2 g n0:Nat)(lb:Array Value)(W0:World)(h1:Jg n0 W0 b1 g lb)(h2:GU n0 W0 b2 v)(hF:By n0 W0 g lb p)(hn:n0≤W0.heap.size):By n0 W0 265 #[.pointer (some ⟨b1,0,none⟩),.pointer (some ⟨b2,0,none⟩)] (fun w=>p w&&CQ v w):=by
 refine⟨enters_of Tryz.func265 (by kernel_rfl) rfl,fun V hV u hu=>?_⟩;have hbw:Below V.heap.size V (V.alloc (Obj.cells u.cells 46)):=(AC _ _).alloc (AB _) _;have hB:=Blk.new V 46 u.cells;have x1:=hB.row 22 rfl;have c1:(V.alloc (Obj.cells u.cells 46)).cell? ⟨b1,0,none⟩=some (.func (.func g) #[] lb):=((h1.below hV).alloc _).cell 0;have HP:Hid (∀W,Below V.heap.size V W→Calls Tryz.prog g (#[u.val]++lb) W (Al W (p u))):=fun W hW=>hF.tells W (hV.trans (hW.mono (AF hn hV.size))) u hu
 have HR2:Hid (∀W,Below V.heap.size V W→AK W b2 0 22=some v.cells):=fun W hW=>(h2.below (hV.trans (hW.mono (AF hn hV.size)))).row 22 rfl
 have HX:Hid (∀W,Below (V.alloc (Obj.cells u.cells 46)).heap.size (V.alloc (Obj.cells u.cells 46)) W→AK W V.heap.size 0 22=some u.cells):=fun W hW=>(hB.below hW hB.lt).row 22 rfl
 have HS:Hid (∀W,Calls Tryz.prog 224 #[v.val,u.val] W (Al W (CQ v u))):=fun W=>Dm v u W
 have eg:=hF.ent;obtain⟨k1,hk1⟩:∃k,k=p u:=⟨_,rfl⟩;obtain⟨k2,hk2⟩:∃k,k=CQ v u:=⟨_,rfl⟩;rw[←hk1,←hk2];rw[←hk1]at HP;rw[←hk2]at HS;clear hk1 hk2 hu h1 h2 hF hn hV hB;go_enter Tryz.func265,Tryz.ntmps265;go_wp2_with fail
 refine(HP.out _ hbw).mono ?_;rintro en w2 ⟨rfl,hb2⟩;have hbw2:=hbw.trans (hb2.mono hbw.size);have x2:=HX.out _ hb2;have x3:=HR2.out _ hbw2;clear x1 c1;cases k1
 ·go_wp2;go_ret;exact⟨rfl,hbw2⟩
 ·go_wp2_with (go_at_call 224;refine(HS.out _).mono ?_;rintro en w3 ⟨rfl,hb3⟩)
  go_ret;exact⟨rfl,hbw2.trans (hb3.mono hbw2.size)⟩
theorem FE(M:Int)(q nC:Nat)(A:Option Addr)(c:Nat)(C:List Vt)(v:Vt)(g:Nat)(lb:Array Value)(p:Vt→Bool)(w:World)(hn:C.length=nC)(hr:Rd w w.heap.size A (C.flatMap vtc))(hv:∀v∈C,Ae v)(hf:By w.heap.size w g lb p)(hsm:nC≤1000000)(hq:q≤10):Calls Tryz.prog 257 #[.agg #[.int .i64 M,.int .i64 (q:Int),.slice A nC c],v.val,.func (.func g) #[] lb] w (Al w (D4 M q v C p)):=by
 obtain⟨W3,hW3⟩:∃W3,W3=((w.alloc (.cells #[.int .i64 M,.int .i64 (q:Int),.slice A nC c] 269)).alloc (.cells v.cells 46)).alloc (.cells #[.func (.func g) #[] lb] 110):=⟨_,rfl⟩;have hbw3:Below w.heap.size w W3:=by rw[hW3];exact(((AC _ _).alloc (AB _) _).alloc (by simp) _).alloc (by simp;omega) _
 have hs3:W3.heap.size=w.heap.size+3:=by rw[hW3];simp
 have hBc:Blk W3 w.heap.size 269 #[.int .i64 M,.int .i64 (q:Int),.slice A nC c]:=by rw[hW3];exact((Blk.new w _ _).alloc _).alloc _
 have hBv:Blk W3 (w.heap.size+1) 46 v.cells:=by
  have h:=(Blk.new (w.alloc (.cells #[.int .i64 M,.int .i64 (q:Int),.slice A nC c] 269)) 46 v.cells).alloc (.cells #[.func (.func g) #[] lb] 110);rw[World.size_alloc]at h;rw[hW3];exact h
 have hBf:Blk W3 (w.heap.size+1+1) 110 #[.func (.func g) #[] lb]:=by
  have h:=Blk.new ((w.alloc (.cells #[.int .i64 M,.int .i64 (q:Int),.slice A nC c] 269)).alloc (.cells v.cells 46)) 110 #[.func (.func g) #[] lb];rw[World.size_alloc,World.size_alloc]at h;rw[hW3];exact h
 obtain⟨k1,hk1⟩:∃k,k=decide (bits .andNot .i64 v.support M=0):=⟨_,rfl⟩;have e1:(bits .andNot .i64 v.support M==0)=k1:=by rw[hk1];rfl
 obtain⟨s,hs⟩:∃s,s=At (xOf v.support) 10:=⟨_,rfl⟩;obtain⟨L,hL⟩:∃L,L=CH (xOf v.support) 10:=⟨_,rfl⟩;obtain⟨P,hP⟩:∃P:Nat→Bool,P=fun i:Nat=>C.any fun w=>decide (w.signer=(i:Int))&&p w:=⟨_,rfl⟩
 have hres:D4 M q v C p=(k1&&(decide (s=q)&&L.all P)):=by rw[hk1,hs,hL,hP];rfl
 have HSz:Hid (∀W,Calls Tryz.prog 15 #[.int .i64 v.support] W fun e w'=>e= .returned (.int .i64 ((s:Nat):Int))∧w'=W):=fun W=>by rw[hs];exact CU v.support W
 have HId:Hid (∀W,Calls Tryz.prog 52 #[.int .i64 v.support] W fun e w'=>∃u,e= .returned u∧w'.ownsRow W.heap.size 3 1 u L.length (L.map fun i:Nat=>Value.int .i64 (i:Int))∧Below W.heap.size W w'):=fun W=>by rw[hL];exact NT v.support W
 have HL10:Hid (L.length≤10):=by unfold Hid;rw[hL];exact E7 _ _
 have HHas:Hid (∀(i bi:Nat) W,Below W3.heap.size W3 W→W3.heap.size≤bi→Blk W bi 3 #[.int .i64 (i:Int)]→Calls Tryz.prog 222 #[.agg #[.int .i64 M,.int .i64 (q:Int),.slice A nC c],.func (.func 278) #[] #[.pointer (some ⟨bi,0,none⟩),.pointer (some ⟨w.heap.size+1+1,0,none⟩)]] W (Al W (P i))):=fun i bi W hW hbi hB=>by
  have hW':=hbw3.trans (hW.mono hbw3.size);rw[hP];exact GV M q nC A c C _ _ _ W hn ((hr.below hW').more hW'.size) hv (RX i p bi (w.heap.size+1+1) g W.heap.size lb W ⟨hB.lt,hB⟩ ⟨by have:=hW.size;omega,hBf.below hW (by omega)⟩ (hf.later hW' hW'.size) (AB _)) hsm
 have hq0:(q:Int)≤10:=by omega
 have hs10:(s:Int)≤10:=by
  rw[hs];have:=D6 (xOf v.support) 10;omega
 have HRes:=AA hres;have HBc:=AA hBc;have HB3:=AA hbw3;have HS3:=AA hs3;have c0:W3.cell? ⟨w.heap.size,0,none⟩=some (.int .i64 M):=hBc.cell 0;have c1:W3.cell? ⟨w.heap.size,1,none⟩=some (.int .i64 (q:Int)):=hBc.cell 1;have c5:W3.cell? ⟨w.heap.size+1,5,none⟩=some (I v.support):=hBv.cell 5;clear hk1 hs hL hP hres hn hr hv hf hBv hBf hBc hbw3 hs3;go_enter Tryz.func257,Tryz.ntmps257;go_upto_region 1 with fail
 simp only[←hW3];have HCs:Hid (∀W,Below W3.heap.size W3 W→W.cell? ⟨w.heap.size,0,none⟩=some (.int .i64 M)∧W.cell? ⟨w.heap.size,1,none⟩=some (.int .i64 (q:Int))∧W.cell? ⟨w.heap.size+1,5,none⟩=some (I v.support)):=fun W hW=>⟨(hW.cell (p:=⟨w.heap.size,0,none⟩) (by have:=HS3.out;show w.heap.size<_;omega)).trans c0,(hW.cell (p:=⟨w.heap.size,1,none⟩) (by have:=HS3.out;show w.heap.size<_;omega)).trans c1,(hW.cell (p:=⟨w.heap.size+1,5,none⟩) (by have:=HS3.out;show w.heap.size+1<_;omega)).trans c5⟩
 clear c0 c1 c5 hW3;have hr0:Below W3.heap.size W3 W3:=AC _ _;cases k1 with
 |false=>
  have e2:(bits .andNot .i64 v.support M !=0)=true:=by rw[bne,e1];rfl
  refine rgD (fun W=>W.cell? ⟨w.heap.size,0,none⟩=some (.int .i64 M)∧W.cell? ⟨w.heap.size,1,none⟩=some (.int .i64 (q:Int))∧W.cell? ⟨w.heap.size+1,5,none⟩=some (I v.support)) (HCs.out _ hr0.drew) fun hHeld=>?_
  refine tkD 9 0 ?_;go_frame;refine tkD 10 1 ?_;go_frame;refine tkD 11 2 ?_;go_frame;refine tkD 12 3 ?_;go_frame;refine tkD 13 4 ?_;go_frame;refine tkD 14 5 ?_;go_frame;refine tkD 15 6 ?_;go_frame;refine skD 16 7 ?_;go_frame;refine skD 17 8 ?_;go_frame;refine skD 18 9 ?_;go_frame;refine skD 19 10 ?_;go_frame;refine skD 20 11 ?_;go_frame;refine skD 21 12 ?_;go_frame;refine tkD 22 13 ?_;go_frame;refine dnD ?_;go_wp2;go_ret;exact⟨by rw[HRes.out];rfl,HB3.out.drew⟩
 |true=>
  have e2:(bits .andNot .i64 v.support M !=0)=false:=by rw[bne,e1];rfl
  by_cases hsq:s=q
  ·have dq:(((s:Nat):Int)==((q:Nat):Int))=true:=by subst hsq;simp
   have dn:(((s:Nat):Int) !=((q:Nat):Int))=false:=by rw[bne,dq];rfl
   refine rgD (fun W=>W.cell? ⟨w.heap.size,0,none⟩=some (.int .i64 M)∧W.cell? ⟨w.heap.size,1,none⟩=some (.int .i64 (q:Int))∧W.cell? ⟨w.heap.size+1,5,none⟩=some (I v.support)) (HCs.out _ hr0.drew) fun hHeld=>?_
   refine tkD 9 0 ?_;go_frame;refine tkD 10 1 ?_;go_frame;refine tkD 11 2 ?_;go_frame;refine tkD 12 3 ?_;go_frame;refine tkD 13 4 ?_;go_frame;refine tkD 14 5 ?_;go_frame;refine tkD 15 6 ?_;go_frame;refine tkD 16 7 ?_;go_frame;refine tkD 17 8 ?_;go_frame;refine tkD 19 10 ?_;go_frame;refine tkD 20 11 ?_;go_frame;refine rd1 9 fun K hK=>?_
   go_simp;refine(HSz.out _).mono ?_;rintro en w4 ⟨rfl,hw4⟩;replace hw4:=hw4.symm;subst hw4;go_wp2_with fail
   refine hK.out _ _ (HCs.out _ hr0.drew) (fun hHeld=>?_);clear hK K;try go_frame
   refine tkD 21 12 ?_;go_frame;refine tkD 22 13 ?_;go_frame;refine dnD ?_;go_wp2_with (go_at_call 52;refine(HId.out _).mono ?_;rintro en w5 ⟨u5,rfl,hown5,hb5⟩;obtain⟨A5,c5,hv5⟩:=Ar hown5;subst hv5)
   have HB5:=AA hb5;have HRow5:=AA (Rd.of_own hown5);have HW35:=AA hr0;obtain⟨nL,hnL⟩:∃n,n=L.length:=⟨_,rfl⟩;have hn10:nL≤10:=by rw[hnL];exact HL10.out
   have HNL:=AA hnL;rw[←hnL];clear hnL hown5 hr0;have hb35:Below W3.heap.size W3 w5:=(AC W3.heap.size W3).drew.trans (hb5.mono (AB _));clear hb5
   go_loopw [27] (fun iv wr=>∃j:Nat,iv= .int .i64 (j:Int)∧j≤nL∧(L.take j).all P=true∧Below w5.heap.size w5 wr) (fun iv _=>nL-(intOf iv).toNat)
   case atStart=>exact⟨0,rfl,by omega,by simp,AC _ _⟩
   case round=>
    obtain⟨j,rfl,hjn,hall,hbr⟩:=hrel;have HAll:=AA hall;clear hall;have hb3r:Below W3.heap.size W3 wr:=hb35.trans (hbr.mono hb35.size);by_cases hj:j<nL
    ·have dj:decide ((j:Int)<(nL:Int))=true:=by simp;omega
     have jk:(j:Int)<(nL:Int):=by omega
     obtain⟨i,hi⟩:∃i,L[j]? =some i:=⟨_,AE (by rw[←HNL.out];exact hj)⟩;have HStep:Hid ((L.take (j+1)).all P=((L.take j).all P&&P i)):=by
      unfold Hid;rw[Ag,hi,List.all_append];simp
     have HFall:Hid (P i=false→L.all P=false):=fun h=>by
      rw[←Bool.not_eq_true,List.all_eq_true];intro hh;rw[hh i (AM hi)]at h;cases h
     have hmap:(L.map fun i:Nat=>Value.int .i64 (i:Int))[j]? =some (.int .i64 (i:Int)):=by rw[AU,hi];rfl
     obtain⟨b,o,rfl,hb,hcell⟩:=(HRow5.out.below hbr).cells (by intro e;rw[List.map_eq_nil_iff]at e;rw[e]at hi;simp at hi);have x1:wr.cell? ⟨b,o+j,none⟩=some (.int .i64 (i:Int)):=hcell j _ hmap;clear hcell hmap hi;go_upto_region 6 with fail
     have hbwa:Below W3.heap.size W3 (wr.alloc (.cells #[.int .i64 (i:Int)] 3)):=hb3r.alloc hb3r.size _;have hlt3:w.heap.size<W3.heap.size:=by have:=HS3.out;omega
     have y0:=(HBc.out.below hbwa hlt3).cell 0;have y1:=(HBc.out.below hbwa hlt3).cell 1;have y2:=(HBc.out.below hbwa hlt3).cell 2;simp at y0 y1 y2;have HCall:=AA (HHas.out i wr.heap.size _ hbwa hb3r.size (Blk.new wr _ _));obtain⟨pi,hpi⟩:∃k,k=P i:=⟨_,rfl⟩;rw[←hpi]at HCall HStep HFall;clear x1 hpi hlt3;try go_frame
     cases pi with
     |true=>
      go_wp2_with (go_at_call 222;refine HCall.out.mono ?_;rintro en w6 ⟨rfl,hb6⟩)
      go_roundw
      case rel=>exact⟨j+1,by go_num,by omega,by rw[HStep.out,HAll.out];rfl,(hbr.alloc hbr.size _).trans (hb6.mono (hbr.alloc hbr.size _).size)⟩
      case measure=>simp[intOf];omega
     |false=>
      go_wp2_with (go_at_call 222;refine HCall.out.mono ?_;rintro en w6 ⟨rfl,hb6⟩)
      go_ret;exact⟨by rw[HRes.out,HFall.out (by simp),Bool.and_false,Bool.and_false];rfl,HB3.out.trans ((hbwa.trans (hb6.mono hbwa.size)).mono HB3.out.size)⟩
    ·have dj:decide ((j:Int)<(nL:Int))=false:=by simp;omega
     go_wp2;go_ret;refine⟨?_,HB3.out.trans (hb3r.mono HB3.out.size)⟩;have hjn':j=nL:=by omega
     have h:=HAll.out;rw[hjn',HNL.out,List.take_length]at h;rw[HRes.out,h,decide_eq_true hsq];rfl
  ·have dq:(((s:Nat):Int)==((q:Nat):Int))=false:=by simp;omega
   have dn:(((s:Nat):Int) !=((q:Nat):Int))=true:=by rw[bne,dq];rfl
   refine rgD (fun W=>W.cell? ⟨w.heap.size,0,none⟩=some (.int .i64 M)∧W.cell? ⟨w.heap.size,1,none⟩=some (.int .i64 (q:Int))∧W.cell? ⟨w.heap.size+1,5,none⟩=some (I v.support)) (HCs.out _ hr0.drew) fun hHeld=>?_
   refine tkD 9 0 ?_;go_frame;refine tkD 10 1 ?_;go_frame;refine tkD 11 2 ?_;go_frame;refine tkD 12 3 ?_;go_frame;refine tkD 13 4 ?_;go_frame;refine tkD 14 5 ?_;go_frame;refine tkD 15 6 ?_;go_frame;refine tkD 16 7 ?_;go_frame;refine tkD 17 8 ?_;go_frame;refine tkD 19 10 ?_;go_frame;refine tkD 20 11 ?_;go_frame;refine rd1 9 fun K hK=>?_
   go_simp;refine(HSz.out _).mono ?_;rintro en w4 ⟨rfl,hw4⟩;replace hw4:=hw4.symm;subst hw4;go_wp2_with fail
   refine hK.out _ _ (HCs.out _ hr0.drew) (fun hHeld=>?_);clear hK K;try go_frame
   refine tkD 21 12 ?_;go_frame;refine tkD 22 13 ?_;go_frame;refine dnD ?_;go_wp2;go_ret;exact⟨by rw[HRes.out,decide_eq_false hsq];rfl,HB3.out.drew⟩
end
end Go.Proofs.YtadllffeoibelaaGreat
