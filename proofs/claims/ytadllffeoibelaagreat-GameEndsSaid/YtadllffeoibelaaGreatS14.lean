/-
  Parts of the proof. No condition.
-/
import Derived.Test.YtadllffeoibelaaGreatS13
open Go.Proofs.Tryz
namespace Go.Proofs.YtadllffeoibelaaGreat
set_option maxRecDepth 100000
set_option maxHeartbeats 32000000
set_option linter.all false
section
open Go.RowKit Go.Shelf
attribute [local go_sem ↓] Go.wp_at_zero Go.wp_at_succ Aq Au Av Aw
attribute [local go_sem] BE BL BM BN AR AX AU
theorem NX(M:Int)(q nC:Nat)(A:Option Addr)(c:Nat)(C:List Vt)(v:Vt)(w:World)(hn:C.length=nC)(hr:Rd w w.heap.size A (C.flatMap vtc))(hv:∀v∈C,AW v)(hsm:nC<=1000000)(hq:q<=10)(h1:v.choice≠2):Calls prog 226 #[.agg #[.int .i64 M,.int .i64 (q:Int),.slice A nC c],v.val] w (An w (Df M q v C (It v))):=by
 obtain⟨W0,hW0⟩:=Wr ((w.alloc (.cells #[.int .i64 M,.int .i64 (q:Int),.slice A nC c] 269)).alloc (.cells v.cells 46));have yP:Wx w W0:=by rw[hW0];exact((AC _ _).alloc (AB _) _).alloc (by simp) _
 have hs0:W0.heap.size=w.heap.size+1+1:=by rw[hW0];simp
 have hAl:Blk W0 w.heap.size 269 #[.int .i64 M,.int .i64 (q:Int),.slice A nC c]:=by rw[hW0];exact(Blk.new w _ _).alloc _
 have hAW:Blk W0 (w.heap.size+1) 46 v.cells:=by
  have h:=Blk.new (w.alloc (.cells #[.int .i64 M,.int .i64 (q:Int),.slice A nC c] 269)) 46 v.cells;rw[World.size_alloc]at h;rw[hW0];exact h
 obtain⟨pf,hpf⟩:=Wr W0.heap.size;obtain⟨W2,hW2⟩:=Wr (W0.alloc (.cells #[.func (.func 264) #[] #[(.pointer (some ⟨w.heap.size+1,0,none⟩))]] 110));have hs2:W2.heap.size=pf+1:=by rw[hW2,hpf];simp
 have yo:Wx W0 W2:=by rw[hW2];exact(AC _ _).alloc (AB _) _
 have xL:Wx w W2:=yP.trans (yo.mono yP.size);have hBc:Blk W2 w.heap.size 269 #[.int .i64 M,.int .i64 (q:Int),.slice A nC c]:=hAl.below yo (by omega);have hBv:Blk W2 (w.heap.size+1) 46 v.cells:=hAW.below yo (by omega);have hBf:Blk W2 pf 110 #[.func (.func 264) #[] #[(.pointer (some ⟨w.heap.size+1,0,none⟩))]]:=by
  have h:=Blk.new W0 110 #[.func (.func 264) #[] #[(.pointer (some ⟨w.heap.size+1,0,none⟩))]];rwa[<-hW2,<-hpf]at h
 have hFR:∀W,Wx W2 W->B5 W.heap.size W 264 #[(.pointer (some ⟨w.heap.size+1,0,none⟩))] (FP v):=fun W hW=>LS v (w.heap.size+1) W.heap.size W ⟨by have:=hW.size;omega,hBv.below hW (by omega)⟩
 have HS1:Hid (∀W,Wx W2 W->Calls prog 257 #[.agg #[.int .i64 M,.int .i64 (q:Int),.slice A nC c],v.val,.func (.func 265) #[] #[(.pointer (some ⟨pf,0,none⟩)),(.pointer (some ⟨w.heap.size+1,0,none⟩))]] W (An W (Df M q v C (It v)))):=fun W hW=>by
  have hW':=xL.trans (hW.mono xL.size);exact Fo M q nC A c C v _ _ _ W hn ((hr.below hW').more hW'.size) hv (RB v (FP v) pf (w.heap.size+1) _ W.heap.size _ W ⟨by have:=hW.size;omega,hBf.below hW (by omega)⟩ ⟨by have:=hW.size;omega,hBv.below hW (by omega)⟩ (hFR W hW) (AB _)) hsm hq
 obtain⟨k1,hk1⟩:=Wr (Df M q v C (It v));rw[<-hk1]at HS1 ⊢;have e0:(v.choice==2)=false:=by simp[h1]
 have e1:(v.choice !=2)=true:=by rw[bne,e0];rfl
 have xM:Hid (∀W,Wx W2 W->AK W (w.heap.size+1) 0 22=some v.cells/\W.cell? ⟨w.heap.size+1,3,none⟩=some (I v.choice)/\W.cell? ⟨pf,0,none⟩=some (.func (.func 264) #[] #[(.pointer (some ⟨w.heap.size+1,0,none⟩))])/\W.cell? ⟨w.heap.size,0,none⟩=some (.int .i64 M)/\W.cell? ⟨w.heap.size,1,none⟩=some (.int .i64 (q:Int))/\W.cell? ⟨w.heap.size,2,none⟩=some (.slice A nC c)):=fun W hW=>
  ⟨(hBv.below hW (by omega)).row 22 rfl,(hBv.below hW (by omega)).cell 3,(hBf.below hW (by omega)).cell 0,(hBc.below hW (by omega)).cell 0,(hBc.below hW (by omega)).cell 1,(hBc.below hW (by omega)).cell 2⟩
 have HW0:=AA hW0;have HW2:=AA hW2;have HPf:=AA hpf;have HB2:=AA xL;clear hk1 hn hr hv hsm hq hBc hBv hBf xL hs2 h1 hW2 hFR hW0 hpf hs0 yP yo hAl hAW;go_enter func226,ntmps226;go_upto_region 1 with fail
 simp only[<-HW0.out];go_upto_region 2 with fail
 simp only[<-HW2.out,<-HPf.out];have xA:Wx W2 W2:=AC _ _;obtain⟨x1,y3,y4,y0,y1,y2⟩:=xM.out _ xA;go_wp2_with (go_at_call 257;refine(HS1.out _ xA).mono ?_;rintro en wa ⟨rfl,hba⟩;replace xA:=xA.trans (hba.mono xA.size))
 go_ret;exact⟨rfl,HB2.out.trans (xA.mono HB2.out.size)⟩
theorem NY(M:Int)(q nC:Nat)(A:Option Addr)(c:Nat)(C:List Vt)(v:Vt)(w:World)(hn:C.length=nC)(hr:Rd w w.heap.size A (C.flatMap vtc))(hv:∀v∈C,AW v)(hsm:nC<=1000000)(hq:q<=10)(h1:v.choice=2):Calls prog 226 #[.agg #[.int .i64 M,.int .i64 (q:Int),.slice A nC c],v.val] w (An w (Df M q v C (FP v)&&LR v C)):=by
 obtain⟨W0,hW0⟩:=Wr ((w.alloc (.cells #[.int .i64 M,.int .i64 (q:Int),.slice A nC c] 269)).alloc (.cells v.cells 46));have yP:Wx w W0:=by rw[hW0];exact((AC _ _).alloc (AB _) _).alloc (by simp) _
 have hs0:W0.heap.size=w.heap.size+1+1:=by rw[hW0];simp
 have hAl:Blk W0 w.heap.size 269 #[.int .i64 M,.int .i64 (q:Int),.slice A nC c]:=by rw[hW0];exact(Blk.new w _ _).alloc _
 have hAW:Blk W0 (w.heap.size+1) 46 v.cells:=by
  have h:=Blk.new (w.alloc (.cells #[.int .i64 M,.int .i64 (q:Int),.slice A nC c] 269)) 46 v.cells;rw[World.size_alloc]at h;rw[hW0];exact h
 obtain⟨pf,hpf⟩:=Wr W0.heap.size;obtain⟨W2,hW2⟩:=Wr (W0.alloc (.cells #[.func (.func 264) #[] #[(.pointer (some ⟨w.heap.size+1,0,none⟩))]] 110));have hs2:W2.heap.size=pf+1:=by rw[hW2,hpf];simp
 have yo:Wx W0 W2:=by rw[hW2];exact(AC _ _).alloc (AB _) _
 have xL:Wx w W2:=yP.trans (yo.mono yP.size);have hBc:Blk W2 w.heap.size 269 #[.int .i64 M,.int .i64 (q:Int),.slice A nC c]:=hAl.below yo (by omega);have hBv:Blk W2 (w.heap.size+1) 46 v.cells:=hAW.below yo (by omega);have hBf:Blk W2 pf 110 #[.func (.func 264) #[] #[(.pointer (some ⟨w.heap.size+1,0,none⟩))]]:=by
  have h:=Blk.new W0 110 #[.func (.func 264) #[] #[(.pointer (some ⟨w.heap.size+1,0,none⟩))]];rwa[<-hW2,<-hpf]at h
 have hFR:∀W,Wx W2 W->B5 W.heap.size W 264 #[(.pointer (some ⟨w.heap.size+1,0,none⟩))] (FP v):=fun W hW=>LS v (w.heap.size+1) W.heap.size W ⟨by have:=hW.size;omega,hBv.below hW (by omega)⟩
 have HS1:Hid (∀W,Wx W2 W->Calls prog 257 #[.agg #[.int .i64 M,.int .i64 (q:Int),.slice A nC c],v.val,.func (.func 264) #[] #[(.pointer (some ⟨w.heap.size+1,0,none⟩))]] W (An W (Df M q v C (FP v)))):=fun W hW=>by
  have hW':=xL.trans (hW.mono xL.size);exact Fo M q nC A c C v _ _ _ W hn ((hr.below hW').more hW'.size) hv (hFR W hW) hsm hq
 have HH:Hid (∀W n0,Wx W2 W->n0=W.heap.size->Calls prog 222 #[.agg #[.int .i64 M,.int .i64 (q:Int),.slice A nC c],.func (.func 266) #[] #[(.pointer (some ⟨pf,0,none⟩)),(.pointer (some ⟨w.heap.size+1,0,none⟩)),.pointer (some ⟨n0,0,none⟩)]] (W.alloc (.cells #[.pointer none] 296)) fun e w'=>e= .returned (.bool (LR v C))/\Below n0 (W.alloc (.cells #[.pointer none] 296)) w'):=fun W n0 hW hn0=>by
  subst hn0;have hWa:Wx W2 (W.alloc (.cells #[.pointer none] 296)):=hW.alloc hW.size _;have hW':=xL.trans (hWa.mono xL.size);have hsz:=hW.size;refine(Pu M q nC W.heap.size A c C _ _ (JV W.heap.size (W.alloc (.cells #[.pointer none] 296)) v) (I9 v) _ hn ((hr.below hW').more (by omega)) (by simp) hv (RE v pf (w.heap.size+1) W.heap.size _ ⟨by omega,hBf.below hWa (by omega)⟩ ⟨by omega,hBv.below hWa (by omega)⟩ (by simp)) ⟨AC _ _,none,Blk.new _ _ _,.inl ⟨rfl,rfl⟩⟩ hsm).mono fun e w' ⟨b,h1,h2,h3⟩=>⟨by rw[h1,show b=LR v C from Bool.eq_iff_iff.2 (h3.trans TC)],h2⟩
 obtain⟨k1,hk1⟩:=Wr (Df M q v C (FP v));rw[<-hk1]at HS1 ⊢;obtain⟨k2,hk2⟩:=Wr (LR v C);rw[<-hk2]at HH ⊢;clear hk2;have e0:(v.choice==2)=true:=by rw[h1];rfl
 have e1:(v.choice !=2)=false:=by rw[bne,e0];rfl
 have xM:Hid (∀W,Wx W2 W->AK W (w.heap.size+1) 0 22=some v.cells/\W.cell? ⟨w.heap.size+1,3,none⟩=some (I v.choice)/\W.cell? ⟨pf,0,none⟩=some (.func (.func 264) #[] #[(.pointer (some ⟨w.heap.size+1,0,none⟩))])/\W.cell? ⟨w.heap.size,0,none⟩=some (.int .i64 M)/\W.cell? ⟨w.heap.size,1,none⟩=some (.int .i64 (q:Int))/\W.cell? ⟨w.heap.size,2,none⟩=some (.slice A nC c)):=fun W hW=>
  ⟨(hBv.below hW (by omega)).row 22 rfl,(hBv.below hW (by omega)).cell 3,(hBf.below hW (by omega)).cell 0,(hBc.below hW (by omega)).cell 0,(hBc.below hW (by omega)).cell 1,(hBc.below hW (by omega)).cell 2⟩
 have HW0:=AA hW0;have HW2:=AA hW2;have HPf:=AA hpf;have HB2:=AA xL;clear hk1 hn hr hv hsm hq hBc hBv hBf xL hs2 h1 hW2 hFR hW0 hpf hs0 yP yo hAl hAW;go_enter func226,ntmps226;go_upto_region 1 with fail
 simp only[<-HW0.out];go_upto_region 2 with fail
 simp only[<-HW2.out,<-HPf.out];have xA:Wx W2 W2:=AC _ _;obtain⟨x1,y3,y4,y0,y1,y2⟩:=xM.out _ xA;cases k1
 ·go_wp2_with (go_at_call 257;refine(HS1.out _ xA).mono ?_;rintro en wa ⟨rfl,hba⟩;replace xA:=xA.trans (hba.mono xA.size))
  go_ret;exact⟨rfl,HB2.out.trans (xA.mono HB2.out.size)⟩
 ·go_upto_region 7 with(go_at_call 257;refine(HS1.out _ xA).mono ?_;rintro en wa ⟨rfl,hba⟩;replace xA:=xA.trans (hba.mono xA.size);obtain⟨x1,y3,y4,y0,y1,y2⟩:=xM.out _ xA)
  clear x1 y3 y4 y0 y1 y2;obtain⟨x1,y3,y4,y0,y1,y2⟩:=xM.out _ (xA.alloc xA.size (.cells #[.pointer none] 296));go_wp2_with (go_at_call 222;refine(HH.out wa wa.heap.size xA rfl).mono ?_;rintro en wb ⟨rfl,hbb⟩)
  go_ret;have hb:=HB2.out.trans (xA.mono HB2.out.size);exact⟨rfl,(hb.alloc hb.size _).trans (hbb.mono hb.size)⟩
structure RF (M:Int)(v s:Vt):Prop where
 val:AW s
 kind:s.kind<=4
 par:s.parent=v.parent
 slot:s.slot=v.slot
 mem:(xOf M).testBit s.signer.toNat=true
theorem ML(M:Int)(nC:Nat)(A:Option Addr)(c:Nat)(C:List Vt)(v:Vt)(w:World)(hn:C.length=nC)(hr:Rd w w.heap.size A (C.flatMap vtc))(hC:∀s∈C,RF M v s)(hsm:nC<=1000000)(hv:AW v)(hk:v.kind<=4)(hsl:(xOf M).testBit v.slot.toNat=true):Calls prog 167 #[.int .i64 M,v.val,.slice A nC c] w fun e w'=>∃b,e= .returned (.bool b)/\Wx w w'/\C4 M (Bd (Ae (xOf M) 10)) v C b:=by
 obtain⟨n,hn'⟩:=Wr (Ae (xOf M) 10);obtain⟨q,hq⟩:=Wr (Bd n);have hEU:n<=10:=by rw[hn'];exact Eh _ 10
 have yg:q<=10:=by rw[hq];unfold Bd;omega
 have HSz:Hid (∀W,Calls prog 15 #[.int .i64 M] W fun e w'=>e= .returned (.int .i64 (n:Int))/\w'=W):=fun W=>by rw[hn'];exact Cd M W
 have HQu:Hid (∀W,Calls prog 115 #[.int .i64 (n:Int)] W fun e w'=>e= .returned (.int .i64 (q:Int))/\w'=W):=fun W=>by rw[hq];exact FZ n hEU W
 rw[<-hn',<-hq];obtain⟨W1,hW1⟩:=Wr (w.alloc (Obj.cells v.cells 46));have yK:Wx w W1:=by rw[hW1];exact(AC _ _).alloc (AB _) _
 have hs1:W1.heap.size=w.heap.size+1:=by rw[hW1];simp
 have hBv:Blk W1 w.heap.size 46 v.cells:=by rw[hW1];exact Blk.new _ _ _
 have yp:Hid (∀W,Calls prog 49 #[v.val] W (An W true)):=fun W=>by
  have h:=De v W ⟨by have:=hv.2.2.2.1;omega,by have:=hv.2.2.2.1;omega⟩;rwa[decide_eq_true hv]at h
 obtain⟨k1,hk1⟩:=Wr ((xOf M).testBit v.signer.toNat);have HA1:Hid (∀W,Calls prog 19 #[.int .i64 M,.int .i64 v.signer] W fun e w'=>e= .returned (.bool k1)/\w'=W):=fun W=>by rw[hk1];exact Dg _ _ hv.2.1.1 hv.2.1.2 W
 have hsb:0<=v.slot/\v.slot<=9:=by
  have h1:=hv.2.2.2.2.1;have h2:=hv.2.2.2.2.2.1;have h3:=hv.2.2.2.2.2.2.1;have h4:=hv.1;rcases(by omega:v.kind=1∨v.kind=2∨v.kind=3∨v.kind=4)with h|h|h|h
  ·exact(h1 (.inl h)).1
  ·exact(h1 (.inr h)).1
  ·exact(h2 h).1
  ·exact(h3 h).1
 have HA2:Hid (∀W,Calls prog 19 #[.int .i64 M,.int .i64 v.slot] W fun e w'=>e= .returned (.bool true)/\w'=W):=fun W=>by rw[<-hsl];exact Dg _ _ hsb.1 hsb.2 W
 have HF1:Hid (∀W,Wx W1 W->AK W w.heap.size 0 22=some v.cells/\W.cell? ⟨w.heap.size,0,none⟩=some (I v.kind)/\W.cell? ⟨w.heap.size,1,none⟩=some (I v.slot)/\W.cell? ⟨w.heap.size,4,none⟩=some (I v.signer)):=fun W hW=>⟨(hBv.below hW (by omega)).row 22 rfl,(hBv.below hW (by omega)).cell 0,(hBv.below hW (by omega)).cell 1,(hBv.below hW (by omega)).cell 4⟩
 have dk:decide (v.kind>4)=false:=by simp;omega
 have HW:=AA hW1;have HB1:=AA yK;have HN:=AA hn;have HR:=AA hr;have HC:=AA hC;have HV:=AA hv;have HK1:=AA hk1;have HBv:=AA hBv;clear hW1 yK hBv hn hr hC hv hk1 hn' hq hsl hEU;go_enter func167,ntmps167;go_upto_region 1 with fail
 simp only[<-HW.out];have xA:Wx W1 W1:=AC _ _;obtain⟨x0,y0,y1,y4⟩:=HF1.out _ xA;cases k1
 ·go_wp2_with (first
   |(go_at_call 49;refine(yp.out _).mono ?_;rintro en wa ⟨rfl,hba⟩;replace xA:=xA.trans (hba.mono xA.size);obtain⟨x0,y0,y1,y4⟩:=HF1.out _ xA;clear yp)
   |(go_at_call 19;refine(HA1.out _).mono ?_;rintro en w2 ⟨rfl,hw2⟩;replace hw2:=hw2.symm;subst hw2;clear HA1))
  go_ret;refine⟨false,rfl,HB1.out.trans (xA.mono HB1.out.size),?_⟩;unfold C4;rw[<-HK1.out];rfl
 ·go_upto_region 3 with(first
   |(go_at_call 49;refine(yp.out _).mono ?_;rintro en wa ⟨rfl,hba⟩;replace xA:=xA.trans (hba.mono xA.size);obtain⟨x0,y0,y1,y4⟩:=HF1.out _ xA;clear yp hba)
   |(go_at_call 19;refine(HA1.out _).mono ?_;rintro en w2 ⟨rfl,hw2⟩;replace hw2:=hw2.symm;subst hw2;clear HA1)
   |(go_at_call 19;refine(HA2.out _).mono ?_;rintro en w2 ⟨rfl,hw2⟩;replace hw2:=hw2.symm;subst hw2;clear HA2))
  go_upto_region 4 with(first
   |(go_at_call 15;refine(HSz.out _).mono ?_;rintro en w2 ⟨rfl,hw2⟩;replace hw2:=hw2.symm;subst hw2)
   |(go_at_call 115;refine(HQu.out _).mono ?_;rintro en w2 ⟨rfl,hw2⟩;replace hw2:=hw2.symm;subst hw2))
  obtain⟨pc,hpc⟩:=Wr wa.heap.size;obtain⟨W3,hW3⟩:=Wr (wa.alloc (.cells #[.int .i64 M,.int .i64 (q:Int),.slice none 0 0] 269));have hs3:W3.heap.size=pc+1:=by rw[hW3,hpc];simp
  have hB3:Blk W3 pc 269 #[.int .i64 M,.int .i64 (q:Int),.slice none 0 0]:=by rw[hW3,hpc];exact Blk.new _ _ _
  have hc3:Wx W1 W3:=by rw[hW3];exact xA.alloc xA.size _
  have hpw:w.heap.size<pc:=by have:=xA.size;omega
  have hw3:Wx w W3:=HB1.out.trans (hc3.mono HB1.out.size);simp only[<-hW3,<-hpc];have HC3:=AA hc3;have HW3:=AA hw3;have HP:=AA hpc;clear hW3 hpc xA hc3 hw3 x0 y0 y1 y4 dk HF1 HSz HQu hs1;go_wp2
  go_loopw [39] (fun iv wr=>∃(i:Nat) (vs:Value),iv= .int .i64 (i:Int)/\i<=nC/\Hid (wr.ownsRow (pc+1) 46 22 vs i ((C.take i).flatMap vtc))/\Hid (Blk wr pc 269 #[.int .i64 M,.int .i64 (q:Int),vs])/\Below pc W3 wr/\pc+1<=wr.heap.size) (fun iv _=>nC-(intOf iv).toNat)
  case atStart=>exact⟨0,_,rfl,by omega,by rw[List.take_zero];exact⟨rfl,.inl ⟨rfl,rfl⟩⟩,hB3,AC _ _,by omega⟩
  case round=>
   obtain⟨i,vs,rfl,hin,xF,HBc,hbr,hsz⟩:=hrel;have hbw:Wx w wr:=HW3.out.trans (hbr.mono (by omega));by_cases hi:i<nC
   ·have di:=Wu (show i<nC by omega)
    have ik:(i:Int)<(nC:Int):=by omega
    have hil:i<=1000000:=by omega
    obtain⟨s,hs⟩:∃s,C[i]? =some s:=⟨_,AE (by rw[HN.out];exact hi)⟩;obtain⟨b,o,rfl,hb,xH⟩:=HR.out.cells (by intro e;have:=AY vtc 22 C (CI C);rw[e,HN.out]at this;simp at this;omega);clear xH;have x1:AK wr b (o+i*22) 22=some s.cells:=(HR.out.below hbw).voteRow hs;have hcs:=HC.out s (AN hs);have hD8:Hid ((C.take (i+1)).flatMap vtc=(C.take i).flatMap vtc++vtc s):=by
     unfold Hid;rw[Ah,hs,Af];simp
    obtain⟨T,hT⟩:=Wr ((C.take i).flatMap vtc);rw[<-hT]at xF hD8;clear hs hT;have HVs:Hid (∀W,Calls prog 49 #[s.val] W (An W true)):=fun W=>by
     have h:=De s W ⟨by have:=hcs.val.2.2.2.1;omega,by have:=hcs.val.2.2.2.1;omega⟩;rwa[decide_eq_true hcs.val]at h
    have HAs:Hid (∀W,Calls prog 19 #[.int .i64 M,.int .i64 s.signer] W fun e w'=>e= .returned (.bool true)/\w'=W):=fun W=>by rw[<-hcs.mem];exact Dg _ _ hcs.val.2.1.1 hcs.val.2.1.2 W
    have d1:decide (s.kind<=4)=true:=decide_eq_true hcs.kind;have d1':=hcs.kind;have d2:(s.slot==v.slot)=true:=by rw[hcs.slot];simp
    have d3:∀W,(Op.equalIn 10000 24 s.parent.val v.parent.val).run prog W= .ok true W:=fun W=>by have h:=EW s.parent v.parent W 9998;rwa[decide_eq_true hcs.par]at h
    clear hcs;go_upto_region 7 with(refine AJ rfl 46 (.tmp 9) (.tmp 42) rfl wr.heap.size s.cells rfl rfl 46 Bk.cells (Blk.new wr _ _) (by rfl) (by kernel_rfl) (fun u hu=>BH s hu) ?_;intro w4 hB4 hg4 xb)
    have hw4:w4.heap.size=wr.heap.size+1:=by rw[xb];simp
    have xJ:Hid (w4.ownsRow (pc+1) 46 22 vs i T):=Ba (xF.out.alloc _) hg4 (fun k hk=>by
     injection hk with hk
     subst hk;right;intro e;have:=(xF.out.lt _ e).2;omega)
    have hEV:Blk w4 pc 269 #[.int .i64 M,.int .i64 (q:Int),vs]:=(HBc.out.alloc _).kept hg4 (by intro e;injection e with e;omega);have hb4:Below pc W3 w4:=(hbr.alloc (by omega) _).grown hg4 (by simp;omega) (fun k hk=>by injection hk with hk;subst hk;omega);have hGF:Blk w4 w.heap.size 46 v.cells:=((HBv.out.below HC3.out HBv.out.lt).below hb4 hpw);obtain⟨ps,hps⟩:=Wr wr.heap.size;rw[<-hps]at hB4 hw4 ⊢;have HF4:Hid (∀W,Wx w4 W->AK W ps 0 22=some s.cells/\AK W ps 6 8=some s.parent.cells/\AK W w.heap.size 6 8=some v.parent.cells/\W.cell? ⟨ps,1,none⟩=some (I s.slot)/\W.cell? ⟨w.heap.size,1,none⟩=some (I v.slot)/\W.cell? ⟨ps,0,none⟩=some (I s.kind)/\W.cell? ⟨ps,4,none⟩=some (I s.signer)/\W.cell? ⟨pc,2,none⟩=some vs):=fun W hW=>
     have h1:=hB4.below hW (by omega);have h2:=hGF.below hW (by omega)
     ⟨h1.row 22 rfl,s.row_parent h1,v.row_parent h2,h1.cell 1,h2.cell 1,h1.cell 0,h1.cell 4,(hEV.below hW (by omega)).cell 2⟩
    have HBc4:=AA hEV;have Hb4:=AA hb4;have HPs:Hid (pc+1<=ps/\ps<w4.heap.size):=by unfold Hid;omega
    have xA:Wx w4 w4:=AC _ _;obtain⟨x0,x2,x3,y1,y2,y3,y4,y5⟩:=HF4.out _ xA;clear hB4 hg4 xb x1 xF hbr hEV hb4 hGF hps HBc hbw hsz;try go_frame
    go_upto_region 8 with(first
     |(go_at_call 49;refine(HVs.out _).mono ?_;rintro en w5 ⟨rfl,hb5⟩;replace xA:=xA.trans (hb5.mono xA.size);clear x0 x2 x3 y1 y2 y3 y4 y5;obtain⟨x0,x2,x3,y1,y2,y3,y4,y5⟩:=HF4.out _ xA;clear hb5)
     |(go_at_call 19;refine(HAs.out _).mono ?_;rintro en w2 ⟨rfl,hw2⟩;replace hw2:=hw2.symm;subst hw2))
    have hs5:=xA.size;have xr:Hid (w5.ownsRow (pc+1) 46 22 vs i T):=BP xJ.out xA (AB _);have hB5:Blk w5 pc 269 #[.int .i64 M,.int .i64 (q:Int),vs]:=HBc4.out.below xA (by have:=HPs.out;omega);have HB5:=AA hB5;have ye:Below pc W3 w5:=Hb4.out.trans (xA.mono (by have:=HPs.out;omega));have Hb35:=AA ye;have hpz:pc+1<=w5.heap.size:=by have:=HPs.out;omega
    clear x2 x3 y1 y2 y3 y4 HF4 hB5 ye xA;try go_frame
    go_wp2_with ((first
     |(refine BQ rfl 56 46 (.tmp 72) rfl s.cells rfl underlying56 (by kernel_rfl) (by decide) (by decide) ?_)
     |(at_builtin;refine Ar rfl (.tmp 71) (.tmp 73) _ rfl (pc+1) 46 (.agg Bk.cells) 22 64 underlying56 CE rfl (by decide) vs i T rfl ?r0 (w5.heap.size+1) (some ⟨w5.heap.size,0,none⟩) 1 1 (vtc s) rfl ?r1 ?r2 ?r3 ?r4 ?r5 ?r6 ?_)))
    case r0=>exact xr.out.alloc _
    case r1=>rfl
    case r2=>exact Rd.mk (by omega) (fun j u hu=>by rw[Nat.zero_add,(Blk.new w5 _ _).cell];simpa using hu)
    case r3=>exact fun u hu=>BH s hu
    case r4=>omega
    case r5=>unfold maxLen;omega
    case r6=>simp;omega
    intro v6 w6 xn hg6 hat6;obtain⟨A6,c6,hv6⟩:=BD xn;subst hv6;have hB6:Blk w6 pc 269 #[.int .i64 M,.int .i64 (q:Int),vs]:=(HB5.out.alloc _).kept hg6 (SG xr.out (by omega));have z5:w6.cell? ⟨pc,2,none⟩=some vs:=hB6.cell 2;have z6:w6.frozen? ⟨pc,2,none⟩=false:=hB6.frozen 2;go_wp2;have hg7:w6.grownBy (w6.setCell ⟨pc,2,none⟩ (.slice A6 (i+1) c6)) (some pc):=Bl ⟨rfl,rfl,rfl,AB _,fun _ _ _=>rfl⟩ rfl _;have xE:=Ba xn hg7 (Wt (.inr (SG xn (by omega)).symm));have hB7:=hB6.put 2 (.slice A6 (i+1) c6);have hb6:Below pc W3 w6:=(Hb35.out.alloc (by omega) _).grown hg6 (by simp;omega) (fun k hk=>by have:=(xr.out.alloc (.cells s.cells 46)).lt k hk;omega);have hb7:=hb6.setCell (p:=⟨pc,2,none⟩) (AB _) (.slice A6 (i+1) c6);have hs6:=hg6.size;simp at hs6;have hs7:=hg7.size;go_roundw
    case rel=>exact⟨i+1,_,by go_num,by omega,by rw[hD8.out];exact xE,hB7,hb7,by omega⟩
    case measure=>simp[intOf];omega
   ·have di:=Wv (show nC<=i by omega)
    obtain rfl:nC=i:=by omega
    obtain⟨A8,c8,hv8⟩:=BD xF.out;subst hv8;have hR8:Rd wr wr.heap.size A8 (C.flatMap vtc):=by
     have h:=Rd.of_own xF.out;rwa[show C.take nC=C from by rw[<-HN.out,List.take_length]]at h
    have hv0:=HV.out;have hBM:Blk wr w.heap.size 46 v.cells:=(HBv.out.below HC3.out HBv.out.lt).below hbr hpw;have hlt:=hBM.lt;have hCv:∀s∈C,AW s:=fun s hs=>(HC.out s hs).val
    have yu:Hid (∀W,Wx wr W->Calls prog 222 #[.agg #[.int .i64 M,.int .i64 (q:Int),.slice A8 nC c8],.func (.func 223) #[] #[.pointer (some ⟨w.heap.size,0,none⟩)]] W (An W (C.any (Kq v)))):=fun W hW=>
     Ha M q nC A8 c8 C _ _ _ W HN.out ((hR8.below hW).more hW.size) hCv (Q7 v w.heap.size W.heap.size W ⟨by have:=hW.size;omega,hBM.below hW hlt⟩) hsm
    have HPv:Hid (v.kind=3->∀W,Wx wr W->Calls prog 225 #[.agg #[.int .i64 M,.int .i64 (q:Int),.slice A8 nC c8],v.val] W (An W (Fn M q v C))):=fun h3 W hW=>by
     by_cases h:v.round=1
     ·exact NV M q nC A8 c8 C v W HN.out ((hR8.below hW).more hW.size) hCv hsm yg h
     ·exact NW M q nC A8 c8 C v W HN.out ((hR8.below hW).more hW.size) hCv hsm yg h (hv0.2.2.2.2.2.1 h3).2.1
    have HPc1:Hid (v.choice≠2->∀W,Wx wr W->Calls prog 226 #[.agg #[.int .i64 M,.int .i64 (q:Int),.slice A8 nC c8],v.val] W (An W (Df M q v C (It v)))):=fun h W hW=>
     NX M q nC A8 c8 C v W HN.out ((hR8.below hW).more hW.size) hCv hsm yg h
    have HPc2:Hid (v.choice=2->∀W,Wx wr W->Calls prog 226 #[.agg #[.int .i64 M,.int .i64 (q:Int),.slice A8 nC c8],v.val] W (An W (Df M q v C (FP v)&&LR v C))):=fun h W hW=>
     NY M q nC A8 c8 C v W HN.out ((hR8.below hW).more hW.size) hCv hsm yg h
    have HBw:=AA hbw;have x0:AK wr w.heap.size 0 22=some v.cells:=hBM.row 22 rfl;have y0:wr.cell? ⟨w.heap.size,0,none⟩=some (I v.kind):=hBM.cell 0;have y1:wr.cell? ⟨w.heap.size,1,none⟩=some (I v.slot):=hBM.cell 1;have y4:wr.cell? ⟨w.heap.size,4,none⟩=some (I v.signer):=hBM.cell 4;have z0:wr.cell? ⟨pc,0,none⟩=some (.int .i64 M):=HBc.out.cell 0;have z1:wr.cell? ⟨pc,1,none⟩=some (.int .i64 (q:Int)):=HBc.out.cell 1;have z2:wr.cell? ⟨pc,2,none⟩=some (.slice A8 nC c8):=HBc.out.cell 2;have hkk:v.kind=1∨v.kind=2∨v.kind=3∨v.kind=4:=by have:=hv0.1;omega
    clear hR8 hv0 hBM hlt hCv xF HBc hbr hbw hsz;rcases hkk with h|h|h|h
    ·have e1:(v.kind==1)=true:=by rw[h];rfl
     obtain⟨k2,hk2⟩:=Wr (decide (v.signer=v.slot));have e2:(v.signer==v.slot)=k2:=by rw[hk2];rfl
     have HK2:=AA hk2;have HH:=AA h;clear hk2 h;go_wp2;go_ret;refine⟨k2,rfl,HBw.out,?_⟩;unfold C4 DD;rw[if_pos HH.out,<-HK1.out,HK2.out];rfl
    ·have e1:(v.kind==1)=false:=by rw[h];rfl
     have e2:(v.kind==2)=true:=by rw[h];rfl
     have HH:=AA h;clear h;go_wp2_with (go_at_call 222;refine(yu.out _ (AC _ _)).mono ?_;rintro en w9 ⟨rfl,hb9⟩)
     go_ret;refine⟨_,rfl,HBw.out.trans (hb9.mono HBw.out.size),?_⟩;unfold C4 DD;rw[if_neg (by rw[HH.out];omega),if_pos HH.out,<-HK1.out];rfl
    ·have e1:(v.kind==1)=false:=by rw[h];rfl
     have e2:(v.kind==2)=false:=by rw[h];rfl
     have e3:(v.kind==3)=true:=by rw[h];rfl
     have HP3:=AA (HPv.out h);have HH:=AA h;clear h;go_wp2_with (go_at_call 225;refine(HP3.out _ (AC _ _)).mono ?_;rintro en w9 ⟨rfl,hb9⟩)
     go_ret;refine⟨_,rfl,HBw.out.trans (hb9.mono HBw.out.size),?_⟩;unfold C4 DD;rw[if_neg (by rw[HH.out];omega),if_neg (by rw[HH.out];omega),if_pos HH.out,<-HK1.out];rfl
    ·have e1:(v.kind==1)=false:=by rw[h];rfl
     have e2:(v.kind==2)=false:=by rw[h];rfl
     have e3:(v.kind==3)=false:=by rw[h];rfl
     have HH:=AA h;clear h;by_cases hc2:v.choice=2
     ·have HP4:=AA (HPc2.out hc2);have HC2:=AA hc2;clear hc2;go_wp2_with (go_at_call 226;refine(HP4.out _ (AC _ _)).mono ?_;rintro en w9 ⟨rfl,hb9⟩)
      go_ret;refine⟨_,rfl,HBw.out.trans (hb9.mono HBw.out.size),?_⟩;unfold C4 DD;rw[if_neg (by rw[HH.out];omega),if_neg (by rw[HH.out];omega),if_neg (by rw[HH.out];omega),if_pos HC2.out,<-HK1.out];rfl
     ·have HP4:=AA (HPc1.out hc2);have HC2:=AA hc2;clear hc2;go_wp2_with (go_at_call 226;refine(HP4.out _ (AC _ _)).mono ?_;rintro en w9 ⟨rfl,hb9⟩)
      go_ret;refine⟨_,rfl,HBw.out.trans (hb9.mono HBw.out.size),?_⟩;unfold C4 DD;rw[if_neg (by rw[HH.out];omega),if_neg (by rw[HH.out];omega),if_neg (by rw[HH.out];omega),if_neg HC2.out,<-HK1.out];rfl
end
section
open Go.RowKit
attribute [local go_sem ↓] Go.wp_at_zero Go.wp_at_succ Aq Au Av Aw
attribute [local go_sem] BE BL BM BN AR AX AU
def NZ(M:Int)(O:List Vt):Prop:=∀k x,O[k]? =some x->C4 M (Bd (Ae (xOf M) 10)) x (O.take k) true
theorem NZ.nil(M:Int):NZ M []:=fun k x h=>by simp at h
theorem NZ.snoc{M:Int}{O:List Vt}{x:Vt}(h:NZ M O)(hx:C4 M (Bd (Ae (xOf M) 10)) x O true):NZ M (O++[x]):=by
 intro k y hy;by_cases hk:k<O.length
 ·rw[List.getElem?_append_left hk]at hy;rw[List.take_append_of_le_length (Nat.le_of_lt hk)];exact h k y hy
 ·rw[List.getElem?_append_right (by omega)]at hy;have h0:k-O.length=0:=by
   have:=(AF.1 hy).1;simpa using this
  rw[h0]at hy;simp only[List.getElem?_cons_zero,Option.some.injEq]at hy;have hkO:k=O.length:=by omega
  subst hkO;rw[<-hy,List.take_append_of_le_length (AB _),List.take_length];exact hx
theorem Kt{M:Int}{q:Nat}{v:Vt}{C:List Vt}(h:C4 M q v C true):(xOf M).testBit v.signer.toNat=true:=by
 unfold C4 at h;rw[eq_comm,Bool.and_eq_true]at h;exact h.1
def Vr(s:Int)(v:Vt):Prop:=AW v/\v.kind<=4/\v.slot=s
def RG(M:Int)(p:Nm)(s:Int)(D O:List Vt):Prop:=NZ M O/\∀x∈O,x∈D/\Vr s x/\x.parent=p/\(xOf M).testBit x.signer.toNat=true
end
section
open Go.RowKit Go.Shelf
def DO(M:Int)(O:List Vt)(k:Oc)(S:Nat):Prop:=
 S<1024/\∀i,i<10->S.testBit i=true->(xOf M).testBit i=true/\∃w∈O,w.signer=(i:Int)/\w.kind=4/\w.round=k.round/\w.choice=k.choice/\w.value=k.value
theorem DO.zero(M:Int)(O:List Vt)(k:Oc):DO M O k 0:=⟨by decide,fun i _ h=>by simp at h⟩
theorem DO.or{M:Int}{O:List Vt}{k:Oc}{S s:Nat}(h:DO M O k S)(hs:s<=9)(hm:(xOf M).testBit s=true)(hw:∃w∈O,w.signer=(s:Int)/\w.kind=4/\w.round=k.round/\w.choice=k.choice/\w.value=k.value):DO M O k (S|||2^s):=by
 refine⟨JL S s h.1 hs,fun i hi hb=>?_⟩;rw[Nat.testBit_or,Bool.or_eq_true,Nat.testBit_two_pow]at hb;rcases hb with hb|hb
 ·exact h.2 i hi hb
 ·have:s=i:=by simpa using hb
  subst this;exact⟨hm,hw⟩
def Cu(M:Int)(s:Int)(O:List Vt)(kl:List (Oc×Value)):Prop:=
 ∀p∈kl,p.1.slot=s/\p.1.choice≠2/\∃S:Nat,p.2= .int .i64 (S:Int)/\DO M O p.1 S
theorem Cu.nil(M s:Int)(O:List Vt):Cu M s O []:=fun p h=>by cases h
theorem Cu.upd{M s:Int}{O:List Vt}{kl kl':List (Oc×Value)}{k:Oc}{S:Nat}(h:Cu M s O kl)(hu:Upd k (.int .i64 (S:Int)) kl kl')(hk:k.slot=s)(hc:k.choice≠2)(hS:DO M O k S):Cu M s O kl':=by
 intro p hp;rcases hu p hp with h1|rfl
 ·exact h p h1
 ·exact⟨hk,hc,S,rfl,hS⟩
theorem E6{κ:Type}[DecidableEq κ](k:κ)(v:Value):∀l:List (κ×Value),BR k l=some v->(k,v)∈l
 |[],h=>by simp[BR]at h
 |p::r,h=>by
  rw[BR]at h;split at h
  ·rename_i hk
   injection h with h
   rw[hk,<-h];exact Am
  ·exact List.mem_cons_of_mem _ (E6 k v r h)
theorem Cu.look{M s:Int}{O:List Vt}{kl:List (Oc×Value)}(h:Cu M s O kl)(k:Oc):∃S:Nat,(BR k kl).getD (.int .i64 0)= .int .i64 (S:Int)/\DO M O k S:=by
 rcases ha:BR k kl with _|v
 ·exact⟨0,rfl,DO.zero M O k⟩
 ·obtain⟨_,_,S,hS,hm⟩:=h (k,v) (E6 k v kl ha);exact⟨S,by rw[Option.getD_some];exact hS,hm⟩
theorem Cu.out{M s:Int}{O:List Vt}{kl:List (Oc×Value)}(h:Cu M s O kl){k:Oc}{S:Nat}(hk:(k,Value.int .i64 (S:Int))∈kl)(hq:Bd (Ae (xOf M) 10)<=Ae (xOf (S:Int)) 10):k.slot=s/\Kk (xOf M) O k.round k.choice k.value:=by
 obtain⟨h1,h2,S',hS',hm⟩:=h _ hk;have e:S=S':=by
  simp only[Value.int.injEq,true_and]at hS';omega
 subst e;rw[DU S hm.1]at hq;exact⟨h1,h2,S,fun i hi hb=>(hm.2 i hi hb).1,hq,fun i hi hb=>(hm.2 i hi hb).2⟩
theorem GM(w:World):(zeroValue 22).run prog w= .ok (.int .i64 0) w:=by kernel_rfl
theorem MM{o:Oper}{a:Act}(s r c:Int)(v:Nm)(x0 x1 x2 x3:Operand)(ho:o.op= .build 142 #[(0,x0),(1,x1),(2,x2),(3,x3)])(h0:a.eval x0=I s)(h1:a.eval x1=I r)(h2:a.eval x2=I c)(h3:a.eval x3= .agg v.cells)(w:World):(execOp a.eval o).run prog w= .ok (.value (Oc.mk s r c v).val) w:=by
 unfold execOp;rw[ho];simp only[List.map_toArray,List.map_cons,List.map_nil,h0,h1,h2,h3];go_simp
theorem Hb{o:Oper}{a:Act}(x:Operand)(s:Nat)(ho:o.op= .binOp .shl 22 (.const (.int .i64 1)) x 3)(hx:a.eval x= .int .i64 (s:Int))(hs:s<=9)(w:World):(execOp a.eval o).run prog w= .ok (.value (.int .i64 ((2^s:Nat):Int))) w:=by
 have he:a.eval (.const (.int .i64 1))= .int .i64 1:=rfl;unfold execOp;rw[ho];simp only[hx,he];go_simp;clear ho hx he;rcases(by omega:s=0∨s=1∨s=2∨s=3∨s=4∨s=5∨s=6∨s=7∨s=8∨s=9)with rfl|rfl|rfl|rfl|rfl|rfl|rfl|rfl|rfl|rfl <;> rfl
theorem Hc{o:Oper}{a:Act}(x y:Operand)(m s:Nat)(ho:o.op= .binOp .or 22 x y 22)(hx:a.eval x= .int .i64 (m:Int))(hy:a.eval y= .int .i64 ((2^s:Nat):Int))(hm:m<1024)(hs:s<=9)(w:World):(execOp a.eval o).run prog w= .ok (.value (.int .i64 ((m|||2^s:Nat):Int))) w:=by
 have h2:2^s<1024:=Nat.pow_lt_pow_right (n:=10) (by omega) (by omega);have h:=KH m (2^s) (by omega) (by omega);obtain⟨z,hz⟩:∃z:Int,z=((2^s:Nat):Int):=⟨_,rfl⟩;obtain⟨z2,hz2⟩:∃z:Int,z=((m|||2^s:Nat):Int):=⟨_,rfl⟩;rw[<-hz,<-hz2]at h;rw[<-hz]at hy;rw[<-hz2];unfold execOp;rw[ho];simp only[hx,hy];clear hz hz2;go_simp
theorem B9{op:Oper}{a:Act}{w w':World}{K:Act->World->Prop}{Q:Exit->Act->World->Prop}(v:Value)(hr:(execOp a.eval op).run prog w= .ok (.value v) w')(hK:K (a.put op.dst v) w'):op.wp prog a w K Q:=by
 unfold Oper.wp;rw[hr,Oper.upon_value];exact hK
theorem LT{op:Oper}{a:Act}{w w':World}{K:Act->World->Prop}{Q:Exit->Act->World->Prop}(hr:(execOp a.eval op).run prog w= .ok .skip w')(hK:K (a.put op.dst undef) w'):op.wp prog a w K Q:=by
 unfold Oper.wp;rw[hr];exact hK
theorem Ku{o:Oper}{a:Act}(x y:Operand)(ho:o.op= .lookup 178 x y false)(m:Nat)(k:Oc)(hx:a.eval x= .map (some m))(hy:a.eval y=k.val){w:World}{kl:List (Oc×Value)}(h:Bj Oc.val w m kl):(execOp a.eval o).run prog w= .ok (.value ((BR k kl).getD (.int .i64 0))) w:=by
 have hr:=h.is.look UR underlying178 (.int .i64 0) (GM w) k false;unfold execOp;rw[ho];simp only[hx,hy];simp only[Bool.false_eq_true,if_false]at hr;simp[hr,Result.andThen]
theorem Rng.le{enc:Oc->Value}{w:World}{m r cnt:Nat}{l:List (Oc×Value)}(h:Rng enc w m r l cnt):cnt<=l.length:=by
 obtain⟨es,c,s,c0,seen,_,_,h3,_,_,_,_,h8⟩:=h;rw[h8];unfold leftOf;have h4:=congrArg List.length h3;simp only[Ab,Array.length_toList]at h4;rw[<-h4];exact Array.size_filter_le
theorem Rng.ne_row{enc:Oc->Value}{w:World}{m r cnt base n size:Nat}{e:TypeId}{v:Value}{xs:List Value}{l:List (Oc×Value)}(h:Rng enc w m r l cnt)(ho:w.ownsRow base e size v n xs):some m≠v.ownBlock/\some r≠v.ownBlock:=by
 obtain⟨es,c,s,c0,seen,h1,h2,_⟩:=h;rcases ho.2 with⟨rfl,_⟩|⟨g,cap,cur,rfl,_,hh,_⟩
 ·exact⟨by simp[Value.ownBlock],by simp[Value.ownBlock]⟩
 ·refine⟨fun he=>?_,fun he=>?_⟩
  ·have:m=g:=by simpa[Value.ownBlock]using he
   subst this;rw[h1]at hh;cases hh
  ·have:r=g:=by simpa[Value.ownBlock]using he
   subst this;rw[h2]at hh;cases hh
def Um(D:List Oc)(w:World)(pb:Nat)(v:Value)(e:Ending)(w3:World):Prop:=
 e= .returned (.tuple #[])/\Blk w3 pb 103 #[v]/\Wx w w3/\∃(l3:List Oc),l3.Perm D/\w3.ownsRow w.heap.size 142 11 v l3.length (l3.flatMap occ)
theorem IX{w:World}{b n:Nat}{e:TypeId}{v:Value}{m:Nat}{xs:List Value}(h:w.ownsRow b e m v n xs):(v= .slice none 0 0/\n=0/\xs=[])∨∃g cap T,v= .slice (some ⟨g,0,none⟩) n cap/\b<=g/\Blk w g e (xs++T).toArray/\n<=cap/\cap<=maxLen/\xs.length+T.length=cap*m:=by
 rcases h.2 with⟨hv,h0⟩|⟨g,cap,cur,hv,hg,hh,h1,h2,h3,ht⟩
 ·exact .inl ⟨hv,h0,AQ (by rw[h.1,h0,Nat.zero_mul])⟩
 ·refine .inr ⟨g,cap,cur.toList.drop (n*m),hv,hg,?_,h1,h2,?_⟩
  ·rw[<-ht,Aj];exact hh
  ·rw[<-ht,<-AI,Aj,Array.length_toList,h3]
theorem TD(w W:World)(pb:Nat)(v:Value)(D:List Oc)(xB:W.ownsRow w.heap.size 142 11 v D.length (D.flatMap occ))(hb:Wx w W)(hpb:Blk W pb 103 #[v])(hsm:D.length<=1000000):Calls prog 116 #[.iface 103 v,.func (.func 117) #[] #[.pointer (some ⟨pb,0,none⟩)]] W (Um D w pb v):=by
 rcases IX xB with⟨rfl,h0,_⟩|⟨g,cap,T,rfl,hg,xZ,zm,hAn,xQ⟩
 ·refine(IV Qv 0 W).mono ?_;rintro e w3 ⟨rfl,hb3⟩;have hD:D=[]:=AQ h0;subst hD;exact⟨rfl,hpb.below hb3 hpb.lt,hb.trans (hb3.mono hb.size),[],List.Perm.refl _,by simp,.inl ⟨rfl,rfl⟩⟩
 ·have hne:pb≠g:=by
   intro e;subst e;unfold Blk at hpb xZ;rw[hpb]at xZ;injection xZ with hh
   injection hh with _ ht
   exact absurd ht (by decide)
  refine(IU Qv ⟨occ,T⟩ (fun _=>rfl) (by decide) (fun x v hv=>L3 x hv) (fun args W=>NI args W) D g D.length cap W (NH T pb g D.length cap D W hpb hne rfl) xZ rfl hsm).mono ?_;rintro e w3 ⟨rfl,l3,hr3,hp3⟩;have hl3:=hp3.length_eq;have f3:=AY occ 11 l3 (IK l3);have fD:=AY occ 11 D (IK D);refine⟨rfl,hr3.box hpb hne,hb.grown hr3.kept hb.size (Wt hg),l3,hp3,f3,.inr ⟨g,cap,_,by rw[hl3],hg,hr3.blk,by rw[hl3];exact zm,hAn,?_,?_⟩⟩
  ·show(l3.flatMap occ++T).length=_;rw[AI,f3,<-xQ,fD,hl3]
  ·show(l3.flatMap occ++T).take (l3.length*11)=_;rw[<-f3,List.take_left]
section
variable {α:Type}{c:Bc α}{t:TypeId}{w0:World}{g n f F:Nat}{sb lb:Array Value}{lt:α->α->Bool}{l0:List α}
def RH(c:Bc α)(t:TypeId)(w0:World)(g n:Nat)(f:Nat)(sb:Array Value):Prop:=
 ∀(W:World) (l:List α) (i j:Nat),Bv c t w0 g l W->l.length=n->i<n->j<n->i≠j->
  ∃W',(callFunc f (#[.int .i64 (i:Int),.int .i64 (j:Int)]++sb)).run prog W= .ok (.value (.tuple #[])) W'/\Bv c t W g (CV l i j) W'
def RI(c:Bc α)(t:TypeId)(g:Nat)(lt:α->α->Bool)(l:List α)(a b:Nat)(w:World)(e:Ending)(w':World):Prop:=
 e= .returned (.tuple #[])/\∃l',Bv c t w g l' w'/\CG l l' a b/\Asc lt (seg l' a b)
theorem MN(eg:∀args w,(callFunc F args).run prog w= .ok (.enter F args) w)(ho:Ord lt)(hle:Fi c t w0 g l0 lt F lb)(hsw:RH c t w0 g n f sb)(a b:Nat)(l:List α)(w:World)(xP:Bv c t w0 g l w)(hp:l.Perm l0)(hn:l.length=n)(xR:n<=1000000)(hab:a<=b)(hb:b<=n):Calls prog 179 #[.agg #[.func (.func F) #[] lb,.func (.func f) #[] sb],.int .i64 (a:Int),.int .i64 (b:Int)] w (RI c t g lt l a b w):=by
 have HO:=AA ho;clear ho;have HLe:=AA hle;clear hle;have HSw:=AA hsw;clear hsw;have xY:=AA xP;clear xP;have HP:=AA hp;clear hp;have HN:=AA hn;clear hn;have hgw:g<w.heap.size:=xY.out.blk.lt;go_enter func179,ntmps179;go_wp2
 go_loopw [6] (fun iv wr=>∃(i:Nat) (l':List α),iv= .int .i64 (i:Int)/\a<i/\(i<=b∨b=a)/\Bv c t (w.alloc (.cells #[.func (.func F) #[] lb,.func (.func f) #[] sb] 190)) g l' wr/\CG l l' a b/\Asc lt (seg l' a i)) (fun iv _=>b+1-(intOf iv).toNat)
 case atStart=>
  refine⟨a+1,l,by go_num,by omega,by omega,Bv.self (xY.out.blk.alloc _),CG.refl _ _ _,?_⟩;rcases hs:seg l a (a+1)with _|⟨x,_|⟨y,r⟩⟩
  ·exact Asc.nil
  ·exact Asc.one _
  ·have:=congrArg List.length hs;unfold seg at this;rw[List.length_drop,AZ]at this;simp at this;omega
 case round=>
  obtain⟨i,l',rfl,hai,hib,hr,hk,hs⟩:=hrel;have HR:=AA hr;have HK:=AA hk;have HS:=AA hs;clear hr hk hs;by_cases hi:i<b
  ·have di:=Wu (show i<b by omega)
   have HL':Hid (l'.length=n):=HK.out.len.trans HN.out;go_wp2
   go_loopw [7] (fun jv wr=>∃(j:Nat) (lj:List α),jv= .int .i64 (j:Int)/\a<=j/\j<=i/\Bv c t (w.alloc (.cells #[.func (.func F) #[] lb,.func (.func f) #[] sb] 190)) g lj wr/\DF lt l' a i j lj) (fun jv _=>(intOf jv).toNat)
   case atStart=>exact⟨i,l',rfl,by omega,by omega,HR.out,DF.start (by omega) (by rw[HL'.out];omega) HS.out⟩
   case round=>
    obtain⟨j,lj,rfl,haj,hji,hr,hBN⟩:=hrel;have hlj:lj.length=n:=hBN.len.1.trans HL'.out;have HLj:=AA hlj;have HI:=AA hBN;have HRj:=AA hr;have c0:wr.cell? ⟨w.heap.size,0,none⟩=some (.func (.func F) #[] lb):=(HRj.out.box (Blk.new w _ _) (by omega)).cell 0;clear hr hBN hlj;have HPj:Hid (lj.Perm l0):=(HI.out.perm.perm.trans HK.out.perm).trans HP.out;have HKj:Hid (CG l lj a b):=HK.out.trans (HI.out.perm.wider (AB _) (by omega));by_cases hja:a<j
    ·have dj:=Wu (show a<j by omega)
     obtain⟨x,y,hx,hy,hAo⟩:=HI.out.two hja;have hl:=fun W (hW:Bv c t (w.alloc (.cells #[.func (.func F) #[] lb,.func (.func f) #[] sb] 190)) g lj W)=>HLe.out W lj j (j-1) x y (xY.out.trans hW.off) HPj.out hx hy
     rw[show(((j-1:Nat):Int))=(j:Int)-1 from by omega]at hl;have HL:=AA hl;have HSt:=AA hAo;have HX:=AA hx;have HY:=AA hy;clear hl hAo hx hy;cases hlv:lt x y with
     |true=>
      rw[hlv]at HL;go_wp2_with fail
      refine(HL.out _ HRj.out).mono ?_;rintro e w2 ⟨rfl,hb2⟩;have HR2:=AA (HRj.out.below hb2);have c1:w2.cell? ⟨w.heap.size,1,none⟩=some (.func (.func f) #[] sb):=(HR2.out.box (Blk.new w _ _) (by omega)).cell 1;obtain⟨W3,xK,hAp⟩:=HSw.out w2 lj j (j-1) (xY.out.trans HR2.out.off) HLj.out (by omega) (by omega) (by omega);rw[show(((j-1:Nat):Int))=(j:Int)-1 from by omega]at xK;have HR3:=AA (HR2.out.trans hAp);clear hAp hb2;go_wp2;go_roundw
      case rel=>exact⟨j-1,CV lj j (j-1),by go_num,by omega,by omega,HR3.out,HSt.out hlv⟩
      case measure=>simp[intOf];omega
     |false=>
      rw[hlv]at HL;go_wp2_with fail
      refine(HL.out _ HRj.out).mono ?_;rintro e w2 ⟨rfl,hb2⟩;have HR2:=AA (HRj.out.below hb2);clear hb2;go_wp2;go_roundw
      case rel=>exact⟨i+1,lj,by go_num,by omega,by omega,HR2.out,HKj.out,HI.out.done HO.out (.inr ⟨x,y,HX.out,HY.out,hlv⟩)⟩
      case measure=>simp[intOf];omega
    ·have dj:=Wv (show j<=a by omega)
     go_wp2;go_roundw
     case rel=>exact⟨i+1,lj,by go_num,by omega,by omega,HRj.out,HKj.out,HI.out.done HO.out (.inl (by omega))⟩
     case measure=>simp[intOf];omega
  ·have di:=Wv (show b<=i by omega)
   go_wp2;go_end0;refine⟨rfl,l',HR.out.off,HK.out,?_⟩;rcases Nat.lt_or_ge b i with h|h
   ·rw[B4 l' (.inr (by omega))];exact Asc.nil
   ·have e:b=i:=by omega
    rw[e];exact HS.out
theorem MO(eg:∀args w,(callFunc F args).run prog w= .ok (.enter F args) w)(ho:Ord lt)(hle:Fi c t w0 g l0 lt F lb)(hsw:RH c t w0 g n f sb)(l:List α)(w:World)(xP:Bv c t w0 g l w)(hp:l.Perm l0)(hn:l.length=n)(xR:n<=12)(L:Int):Calls prog 169 #[.agg #[.func (.func F) #[] lb,.func (.func f) #[] sb],.int .i64 0,.int .i64 (n:Int),.int .i64 L] w (RI c t g lt l 0 n w):=by
 obtain⟨B,hB⟩:=Wr (w.alloc (.cells #[.func (.func F) #[] lb,.func (.func f) #[] sb] 190));have hrB:Bv c t w0 g l B:=by rw[hB];exact xP.alloc _
 have hBx:Blk B w.heap.size 190 #[.func (.func F) #[] lb,.func (.func f) #[] sb]:=by rw[hB];exact Blk.new _ _ _
 have HI:=AA (MN eg ho hle hsw 0 n l B hrB hp hn (by omega) (Nat.zero_le _) (AB _));have xt:Hid (∀V l',Bv c t B g l' V->Bv c t w g l' V):=fun V l' h=>by rw[hB]at h;exact h.off
 have c0:B.cell? ⟨w.heap.size,0,none⟩=some (.func (.func F) #[] lb):=hBx.cell 0;have c1:B.cell? ⟨w.heap.size,1,none⟩=some (.func (.func f) #[] sb):=hBx.cell 1;have HB:=AA hB;clear eg ho hle hsw xP hp hn hB hrB hBx;have d12:decide ((n:Int)<=12)=true:=by simp;omega
 have d12':decide ((n:Int)-0<=12)=true:=by simp;omega
 go_enter func169,ntmps169;go_upto_region 1 with fail
 simp only[<-HB.out];go_upto_region 3 with fail
 go_loopw [1,2,3,8,9] (fun av bv lv xv yv wr=>av= .int .i64 0/\bv= .int .i64 (n:Int)/\lv= .int .i64 L/\xv= .bool true/\yv= .bool true/\wr=B) (fun _ _ _ _ _ _=>0)
 case atStart=>exact⟨rfl,rfl,rfl,rfl,rfl,rfl⟩
 case round=>
  obtain⟨rfl,rfl,rfl,rfl,rfl,hwr⟩:=hrel;subst hwr;go_wp2_with fail
  refine HI.out.mono ?_;rintro en w2 ⟨rfl,l',h1,h2⟩;go_wp2;refine bodyPost_ret (results_none rfl _ _ _) rfl ?_;exact⟨rfl,l',xt.out _ _ h1,h2⟩
end
theorem Pv{α:Type}[Inhabited α](n cap:Nat){c:Bc α}{m g:Nat}{e:TypeId}{f:Nat}{gS:Bool}(H:Lit c.enc m e f gS)(t:TypeId)(w0:World):RH c t w0 g n f #[.slice (some ⟨g,0,none⟩) n cap,typeHandle prog e]:=by
 intro W l i j hr hn hi hj _;have hi':i<l.length:=by omega
 have hj':j<l.length:=by omega
 have hm:=H.len;have xK:=Lz (g:=g) (n:=n) (cap:=cap) H W l i j hi' hj' hi hj (fun k u z v=>EP hm hr.blk k u z v) (fun k _ u _=>hr.blk.frozen _);obtain⟨b1,k1⟩:=IH hm hr.blk i l[j] hi';obtain⟨b2,k2⟩:=IH hm b1 j l[i] (by rw[List.length_set];exact hj');refine⟨_,by rw[xK,Nat.zero_add,Nat.zero_add],?_,k1.trans k2⟩;unfold CV;rw[AE hi',AE hj'];exact b2
theorem JW{α:Type}[Inhabited α]{F:Nat}{lb:Array Value}{lt:α->α->Bool}{t e:TypeId}{m:Nat}(S:SlT t e m)(c:Bc α)(hl:∀x,(c.enc x).length=m)(h1:∀x,∀v∈c.enc x,v.oneCell'=true)(ho:Ord lt)(eg:∀args w,(callFunc F args).run prog w= .ok (.enter F args) w)(l:List α)(g n cap:Nat)(w:World)(hle:Fi c e w g l lt F lb)(xZ:Blk w g e (l.flatMap c.enc++c.tail).toArray)(hn:l.length=n)(hsm:n<=12):Calls prog 116 #[.iface t (.slice (some ⟨g,0,none⟩) n cap),.func (.func F) #[] lb] w fun e' w'=>e'= .returned (.tuple #[])/\∃l',Bv c e w g l' w'/\l'.Perm l/\Asc lt l':=by
 obtain⟨i,hi,hd⟩:=S.info;obtain⟨ie,h2,h3,h4⟩:=S.elem;have xP:Bv c e w g l (sliceWorld prog I0 t (some ⟨g,0,none⟩) n cap w):=((Bv.self xZ).alloc _).alloc _;have H9:=MD (enc:=c.enc) S hl h1;have fin:∀e' w',RI c e g lt l 0 n (sliceWorld prog I0 t (some ⟨g,0,none⟩) n cap w) e' w'->e'= .returned (.tuple #[])/\∃l',Bv c e w g l' w'/\l'.Perm l/\Asc lt l':=fun e' w' h=>by
  obtain⟨h5,l',h6,h7,h8⟩:=h;refine⟨h5,l',xP.trans h6,h7.perm,?_⟩;have hl':l'.length=n:=h7.perm.length_eq.trans hn;have e1:seg l' 0 n=l':=by unfold seg;rw[List.drop_zero,AT (by omega)]
  rwa[e1]at h8
 refine Any.sort_Slice_of_pdq Gs t e i ie hi hd S.packed h2 25 S.kind (some ⟨g,0,none⟩) n cap (by omega) (Fl n) (GK h4 n) (.func F) #[] lb w (fun w'=>∃l',Bv c e w g l' w'/\l'.Perm l/\Asc lt l') ?_;by_cases h:2<=n
 ·have e1:Fl n=178:=by unfold Fl;rw[if_neg (by omega),if_neg (by omega)]
  have e2:sliceBound prog e ie 25 (some ⟨g,0,none⟩) n cap=#[.slice (some ⟨g,0,none⟩) n cap,typeHandle prog e]:=by unfold sliceBound;rw[h4 n h];rfl
  rw[e1,e2];exact(MO (w0:=w) (n:=n) eg ho hle (Pv n cap H9 e w) l _ xP (List.Perm.refl _) hn hsm _).mono fin
 ·exact(MO (w0:=w) (n:=n) eg ho hle (fun _ _ i j _ _ hi hj hne=>absurd hne (by omega)) l _ xP (List.Perm.refl _) hn hsm _).mono fin
end
section
open Go.RowKit
attribute [local go_sem ↓] Go.wp_at_zero Go.wp_at_succ Aq Au Av Aw Dl
attribute [local go_sem] BE BL BM BN FE AR AX AU
instance:Inhabited Vl:=⟨Vl.zero⟩
theorem Bv.vl{T:List Value}{w0 W:World}{g i:Nat}{l:List Vl}{x:Vl}(h:Bv ⟨vlc,T⟩ 258 w0 g l W)(hx:l[i]? =some x):AK W g (i*9) 9=some x.cells:=by
 refine By (fun j u hu=>?_) rfl;have:=EP (c:=⟨vlc,T⟩) (m:=9) (fun _=>rfl) h.blk i j x u hx (by simpa using hu);rwa[Nat.zero_add]at this
theorem Pw(T:List Value)(B g n c:Nat)(l0:List Vl)(w0:World)(hB:Blk w0 B 261 #[.slice (some ⟨g,0,none⟩) n c])(hne:B≠g)(hn:l0.length=n):Fi ⟨vlc,T⟩ 258 w0 g l0 DG 251 #[.pointer (some ⟨B,0,none⟩)]:=by
 intro W l i j x y hr hp hx hy;have hi:i<n:=by rw[<-hn,<-hp.length_eq];exact(AF.1 hx).1
 have hj:j<n:=by rw[<-hn,<-hp.length_eq];exact(AF.1 hy).1
 have hc0:W.cell? ⟨B,0,none⟩=some (.slice (some ⟨g,0,none⟩) n c):=(hr.box hB hne).cell 0;have xe:Hid (∀V,Wx W V->V.cell? ⟨B,0,none⟩=some (.slice (some ⟨g,0,none⟩) n c)/\AK V g (i*9) 9=some x.cells/\AK V g (j*9) 9=some y.cells):=
  fun V hV=>⟨(hV.cell (p:=⟨B,0,none⟩) (hr.box hB hne).lt).trans hc0,BC (hr.vl hx) hV hr.blk.lt,BC (hr.vl hy) hV hr.blk.lt⟩
 have HL:Hid (∀V,Wx W V->Calls prog 252 #[x.val,y.val] V (An V (DG x y))):=
  fun V hV=>OM x y V
 obtain⟨r,hrr⟩:=Wr (DG x y);rw[<-hrr]at HL ⊢;clear hrr hc0 hr hp hx hy hB hn;have hbw:Wx W W:=AC _ _;show Calls prog 251 #[.int .i64 (i:Int),.int .i64 (j:Int),.pointer (some ⟨B,0,none⟩)] W _;go_enter func251,ntmps251;go_upto_region 1 with fail
 refine rgD (fun w'=>w'.cell? ⟨B,0,none⟩=some (.slice (some ⟨g,0,none⟩) n c)/\AK w' g (i*9) 9=some x.cells/\AK w' g (j*9) 9=some y.cells) (xe.out _ hbw.drew) fun _=>?_
 iterate 8 (refine tkA ?_;go_frame)
 refine rd1 8 fun K hK=>?_
 go_simp;refine(HL.out _ hbw.drew).mono ?_;rintro en w2 ⟨rfl,hb2⟩;have xL:=hbw.drew.trans (hb2.mono hbw.size);go_wp2_with fail
 refine hK.out _ _ (xe.out _ xL) (fun _=>?_);clear hK K;try go_frame
 refine tkD 5 9 ?_;go_frame;refine dnD ?_;go_wp2;go_ret;exact⟨rfl,xL⟩
noncomputable def vlT:TypeInfo:=(prog.info? 261).get (by kernel_rfl)
noncomputable def vlE:TypeInfo:=(prog.info? 258).get (by kernel_rfl)
theorem Vs(n:Nat)(h:2<=n):Lib.swapperK n vlE 25=9:=by
 have a:vlE.hasPointers=false:=by kernel_rfl
 have b:vlE.bytes=16:=by kernel_rfl
 have c0:(n==0)=false:=by simp;omega
 have c1:(n==1)=false:=by simp;omega
 unfold Lib.swapperK;rw[a,b,c0,c1];rfl
theorem Un:prog.info? 261=some vlT:=by kernel_rfl
theorem Uo:prog.info? 258=some vlE:=by kernel_rfl
theorem RJ:vlT.desc= .slice 258:=by kernel_rfl
theorem RK:vlE.size=9:=by kernel_rfl
theorem Na:SlT 261 258 9:=
 ⟨⟨vlT,Un,RJ⟩,by kernel_rfl,⟨vlE,Uo,RK,Vs⟩,fun _=>by kernel_rfl,fun _=>by kernel_rfl⟩
theorem JX(args:Array Value)(W:World):(callFunc 251 args).run prog W= .ok (.enter 251 args) W:=enters_of func251 (by kernel_rfl) rfl args W
theorem Nb(a b:Vl):DG a b=decide (a.choice<b.choice∨(a.choice=b.choice/\(Dh a.name.bytes:Int)<Dh b.name.bytes)):=by
 unfold DG;by_cases h:a.choice=b.choice
 ·rw[if_neg (fun hh=>hh h),LI];exact decide_eq_decide.2 ⟨fun h1=>.inr ⟨h,h1⟩,fun h1=>h1.elim (fun h2=>absurd h2 (by omega)) fun h2=>h2.2⟩
 ·rw[if_pos h];exact decide_eq_decide.2 ⟨fun h1=>.inl h1,fun h1=>h1.elim (fun h2=>h2) fun h2=>absurd h2.1 h⟩
theorem Vu:Ord DG:=⟨fun a b h=>by
 rw[Nb]at h ⊢;have:=of_decide_eq_true h;exact decide_eq_false (by omega),fun a b c h h'=>by
 rw[Nb]at h h' ⊢;have:=of_decide_eq_false h;have:=of_decide_eq_false h';exact decide_eq_false (by omega)⟩
def Vv(D:List Vl)(w:World)(pb:Nat)(v:Value)(e:Ending)(w3:World):Prop:=
 e= .returned (.tuple #[])/\Blk w3 pb 261 #[v]/\Wx w w3/\∃(l3:List Vl),l3.Perm D/\(D.length<=12->Asc DG l3)/\w3.ownsRow w.heap.size 258 9 v l3.length (l3.flatMap vlc)
theorem Up(w W:World)(pb:Nat)(v:Value)(D:List Vl)(xB:W.ownsRow w.heap.size 258 9 v D.length (D.flatMap vlc))(hb:Wx w W)(hpb:Blk W pb 261 #[v])(hsm:D.length<=1000000):Calls prog 116 #[.iface 261 v,.func (.func 251) #[] #[.pointer (some ⟨pb,0,none⟩)]] W (Vv D w pb v):=by
 rcases IX xB with⟨rfl,h0,_⟩|⟨g,cap,T,rfl,hg,xZ,zm,hAn,xQ⟩
 ·refine(IV Na 0 W).mono ?_;rintro e w3 ⟨rfl,hb3⟩;have hD:D=[]:=AQ h0;subst hD;exact⟨rfl,hpb.below hb3 hpb.lt,hb.trans (hb3.mono hb.size),[],List.Perm.refl _,fun _=>Asc.nil,by simp,.inl ⟨rfl,rfl⟩⟩
 ·have hne:pb≠g:=by
   intro e;subst e;unfold Blk at hpb xZ;rw[hpb]at xZ;injection xZ with hh
   injection hh with _ ht
   exact absurd ht (by decide)
  have hle:=Pw T pb g D.length cap D W hpb hne rfl;have key:Calls prog 116 #[.iface 261 (.slice (some ⟨g,0,none⟩) D.length cap),.func (.func 251) #[] #[.pointer (some ⟨pb,0,none⟩)]] W fun e w3=>e= .returned (.tuple #[])/\∃l',Bv ⟨vlc,T⟩ 258 W g l' w3/\l'.Perm D/\(D.length<=12->Asc DG l'):=by
   by_cases h12:D.length<=12
   ·exact(JW Na ⟨vlc,T⟩ (fun _=>rfl) (fun x v hv=>EQ x hv) Vu (fun args W=>JX args W) D g D.length cap W hle xZ rfl h12).mono fun e w3 ⟨a,l',b,c,d⟩=>⟨a,l',b,c,fun _=>d⟩
   ·exact(IU Na ⟨vlc,T⟩ (fun _=>rfl) (by decide) (fun x v hv=>EQ x hv) (fun args W=>JX args W) D g D.length cap W hle xZ rfl hsm).mono fun e w3 ⟨a,l',b,c⟩=>⟨a,l',b,c,fun h=>absurd h h12⟩
  refine key.mono ?_;rintro e w3 ⟨rfl,l3,hr3,hp3,ha3⟩;have hl3:=hp3.length_eq;have f3:=AY vlc 9 l3 (FV l3);have fD:=AY vlc 9 D (FV D);refine⟨rfl,hr3.box hpb hne,hb.grown hr3.kept hb.size (Wt hg),l3,hp3,ha3,f3,.inr ⟨g,cap,_,by rw[hl3],hg,hr3.blk,by rw[hl3];exact zm,hAn,?_,?_⟩⟩
  ·show(l3.flatMap vlc++T).length=_;rw[AI,f3,<-xQ,fD,hl3]
  ·show(l3.flatMap vlc++T).take (l3.length*9)=_;rw[<-f3,List.take_left]
end
end Go.Proofs.YtadllffeoibelaaGreat
