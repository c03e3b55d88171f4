/-
  What these parts of the proof come to, functions walked and plain laws: Jus5, Jus6, Acc1. No condition.
-/
import Derived.Test.YtadllffeoibelaaGreatS25
import Derived.Test.YtadllffeoibelaaGreatS22
import Derived.Deep.DeepCutAuto
import Derived.ScopeJumps
import Derived.Test.YtadllffeoibelaaGreatS6
namespace Go.Proofs.YtadllffeoibelaaGreat
set_option maxRecDepth 100000
set_option maxHeartbeats 32000000
set_option linter.all false
section
open Go.RowKit Go.Shelf
attribute [local go_sem ↓] Go.wp_at_zero Go.wp_at_succ An Au Av Aw
attribute [local go_sem] BD BH BI BJ AN AW AQ
theorem Mn(M:Int)(q nC:Nat)(A:Option Addr)(c:Nat)(C:List Vt)(v:Vt)(w:World)(hn:C.length=nC)(hr:Rd w w.heap.size A (C.flatMap vtc))(hv:∀v∈C,Ae v)(hsm:nC≤1000000)(hq:q≤10)(h1:v.choice≠2):Calls Tryz.prog 226 #[.agg #[.int .i64 M,.int .i64 (q:Int),.slice A nC c],v.val] w (Al w (D4 M q v C (Iz v))):=by
 obtain⟨W0,hW0⟩:∃W0,W0=(w.alloc (.cells #[.int .i64 M,.int .i64 (q:Int),.slice A nC c] 269)).alloc (.cells v.cells 46):=⟨_,rfl⟩;have hbw0:Below w.heap.size w W0:=by rw[hW0];exact((AC _ _).alloc (AB _) _).alloc (by simp) _
 have hs0:W0.heap.size=w.heap.size+1+1:=by rw[hW0];simp
 have hBc0:Blk W0 w.heap.size 269 #[.int .i64 M,.int .i64 (q:Int),.slice A nC c]:=by rw[hW0];exact(Blk.new w _ _).alloc _
 have hBv0:Blk W0 (w.heap.size+1) 46 v.cells:=by
  have h:=Blk.new (w.alloc (.cells #[.int .i64 M,.int .i64 (q:Int),.slice A nC c] 269)) 46 v.cells;rw[World.size_alloc]at h;rw[hW0];exact h
 obtain⟨pf,hpf⟩:∃p,p=W0.heap.size:=⟨_,rfl⟩;obtain⟨W2,hW2⟩:∃W2,W2=W0.alloc (.cells #[.func (.func 264) #[] #[(.pointer (some ⟨w.heap.size+1,0,none⟩))]] 110):=⟨_,rfl⟩;have hs2:W2.heap.size=pf+1:=by rw[hW2,hpf];simp
 have hb02:Below W0.heap.size W0 W2:=by rw[hW2];exact(AC _ _).alloc (AB _) _
 have hbw2:Below w.heap.size w W2:=hbw0.trans (hb02.mono hbw0.size);have hBc:Blk W2 w.heap.size 269 #[.int .i64 M,.int .i64 (q:Int),.slice A nC c]:=hBc0.below hb02 (by omega);have hBv:Blk W2 (w.heap.size+1) 46 v.cells:=hBv0.below hb02 (by omega);have hBf:Blk W2 pf 110 #[.func (.func 264) #[] #[(.pointer (some ⟨w.heap.size+1,0,none⟩))]]:=by
  have h:=Blk.new W0 110 #[.func (.func 264) #[] #[(.pointer (some ⟨w.heap.size+1,0,none⟩))]];rwa[←hW2,←hpf]at h
 have hFR:∀W,Below W2.heap.size W2 W→By W.heap.size W 264 #[(.pointer (some ⟨w.heap.size+1,0,none⟩))] (G9 v):=fun W hW=>KV v (w.heap.size+1) W.heap.size W ⟨by have:=hW.size;omega,hBv.below hW (by omega)⟩
 have HS1:Hid (∀W,Below W2.heap.size W2 W→Calls Tryz.prog 257 #[.agg #[.int .i64 M,.int .i64 (q:Int),.slice A nC c],v.val,.func (.func 265) #[] #[(.pointer (some ⟨pf,0,none⟩)),(.pointer (some ⟨w.heap.size+1,0,none⟩))]] W (Al W (D4 M q v C (Iz v)))):=fun W hW=>by
  have hW':=hbw2.trans (hW.mono hbw2.size);exact FE M q nC A c C v _ _ _ W hn ((hr.below hW').more hW'.size) hv (Pu v (G9 v) pf (w.heap.size+1) _ W.heap.size _ W ⟨by have:=hW.size;omega,hBf.below hW (by omega)⟩ ⟨by have:=hW.size;omega,hBv.below hW (by omega)⟩ (hFR W hW) (AB _)) hsm hq
 obtain⟨k1,hk1⟩:∃k,k=D4 M q v C (Iz v):=⟨_,rfl⟩;rw[←hk1]at HS1 ⊢;have e0:(v.choice==2)=false:=by simp[h1]
 have e1:(v.choice !=2)=true:=by rw[bne,e0];rfl
 have HFacts:Hid (∀W,Below W2.heap.size W2 W→AK W (w.heap.size+1) 0 22=some v.cells∧W.cell? ⟨w.heap.size+1,3,none⟩=some (I v.choice)∧W.cell? ⟨pf,0,none⟩=some (.func (.func 264) #[] #[(.pointer (some ⟨w.heap.size+1,0,none⟩))])∧W.cell? ⟨w.heap.size,0,none⟩=some (.int .i64 M)∧W.cell? ⟨w.heap.size,1,none⟩=some (.int .i64 (q:Int))∧W.cell? ⟨w.heap.size,2,none⟩=some (.slice A nC c)):=fun W hW=>
  ⟨(hBv.below hW (by omega)).row 22 rfl,(hBv.below hW (by omega)).cell 3,(hBf.below hW (by omega)).cell 0,(hBc.below hW (by omega)).cell 0,(hBc.below hW (by omega)).cell 1,(hBc.below hW (by omega)).cell 2⟩
 have HW0:=AA hW0;have HW2:=AA hW2;have HPf:=AA hpf;have HB2:=AA hbw2;clear hk1 hn hr hv hsm hq hBc hBv hBf hbw2 hs2 h1 hW2 hFR hW0 hpf hs0 hbw0 hb02 hBc0 hBv0;go_enter Tryz.func226,Tryz.ntmps226;go_upto_region 1 with fail
 simp only[←HW0.out];go_upto_region 2 with fail
 simp only[←HW2.out,←HPf.out];have hcur:Below W2.heap.size W2 W2:=AC _ _;obtain⟨x1,y3,y4,y0,y1,y2⟩:=HFacts.out _ hcur;go_wp2_with (go_at_call 257;refine(HS1.out _ hcur).mono ?_;rintro en wa ⟨rfl,hba⟩;replace hcur:=hcur.trans (hba.mono hcur.size))
 go_ret;exact⟨rfl,HB2.out.trans (hcur.mono HB2.out.size)⟩
theorem Mo(M:Int)(q nC:Nat)(A:Option Addr)(c:Nat)(C:List Vt)(v:Vt)(w:World)(hn:C.length=nC)(hr:Rd w w.heap.size A (C.flatMap vtc))(hv:∀v∈C,Ae v)(hsm:nC≤1000000)(hq:q≤10)(h1:v.choice=2):Calls Tryz.prog 226 #[.agg #[.int .i64 M,.int .i64 (q:Int),.slice A nC c],v.val] w fun e w'=>∃b,e= .returned (.bool b)∧Below w.heap.size w w':=by
 obtain⟨W0,hW0⟩:∃W0,W0=(w.alloc (.cells #[.int .i64 M,.int .i64 (q:Int),.slice A nC c] 269)).alloc (.cells v.cells 46):=⟨_,rfl⟩;have hbw0:Below w.heap.size w W0:=by rw[hW0];exact((AC _ _).alloc (AB _) _).alloc (by simp) _
 have hs0:W0.heap.size=w.heap.size+1+1:=by rw[hW0];simp
 have hBc0:Blk W0 w.heap.size 269 #[.int .i64 M,.int .i64 (q:Int),.slice A nC c]:=by rw[hW0];exact(Blk.new w _ _).alloc _
 have hBv0:Blk W0 (w.heap.size+1) 46 v.cells:=by
  have h:=Blk.new (w.alloc (.cells #[.int .i64 M,.int .i64 (q:Int),.slice A nC c] 269)) 46 v.cells;rw[World.size_alloc]at h;rw[hW0];exact h
 obtain⟨pf,hpf⟩:∃p,p=W0.heap.size:=⟨_,rfl⟩;obtain⟨W2,hW2⟩:∃W2,W2=W0.alloc (.cells #[.func (.func 264) #[] #[(.pointer (some ⟨w.heap.size+1,0,none⟩))]] 110):=⟨_,rfl⟩;have hs2:W2.heap.size=pf+1:=by rw[hW2,hpf];simp
 have hb02:Below W0.heap.size W0 W2:=by rw[hW2];exact(AC _ _).alloc (AB _) _
 have hbw2:Below w.heap.size w W2:=hbw0.trans (hb02.mono hbw0.size);have hBc:Blk W2 w.heap.size 269 #[.int .i64 M,.int .i64 (q:Int),.slice A nC c]:=hBc0.below hb02 (by omega);have hBv:Blk W2 (w.heap.size+1) 46 v.cells:=hBv0.below hb02 (by omega);have hBf:Blk W2 pf 110 #[.func (.func 264) #[] #[(.pointer (some ⟨w.heap.size+1,0,none⟩))]]:=by
  have h:=Blk.new W0 110 #[.func (.func 264) #[] #[(.pointer (some ⟨w.heap.size+1,0,none⟩))]];rwa[←hW2,←hpf]at h
 have hFR:∀W,Below W2.heap.size W2 W→By W.heap.size W 264 #[(.pointer (some ⟨w.heap.size+1,0,none⟩))] (G9 v):=fun W hW=>KV v (w.heap.size+1) W.heap.size W ⟨by have:=hW.size;omega,hBv.below hW (by omega)⟩
 have HS1:Hid (∀W,Below W2.heap.size W2 W→Calls Tryz.prog 257 #[.agg #[.int .i64 M,.int .i64 (q:Int),.slice A nC c],v.val,.func (.func 264) #[] #[(.pointer (some ⟨w.heap.size+1,0,none⟩))]] W (Al W (D4 M q v C (G9 v)))):=fun W hW=>by
  have hW':=hbw2.trans (hW.mono hbw2.size);exact FE M q nC A c C v _ _ _ W hn ((hr.below hW').more hW'.size) hv (hFR W hW) hsm hq
 have HH:Hid (∀W n0,Below W2.heap.size W2 W→n0=W.heap.size→Calls Tryz.prog 222 #[.agg #[.int .i64 M,.int .i64 (q:Int),.slice A nC c],.func (.func 266) #[] #[(.pointer (some ⟨pf,0,none⟩)),(.pointer (some ⟨w.heap.size+1,0,none⟩)),.pointer (some ⟨n0,0,none⟩)]] (W.alloc (.cells #[.pointer none] 296)) fun e w'=>∃b,e= .returned (.bool b)∧Below n0 (W.alloc (.cells #[.pointer none] 296)) w'):=fun W n0 hW hn0=>by
  subst hn0;have hWa:Below W2.heap.size W2 (W.alloc (.cells #[.pointer none] 296)):=hW.alloc hW.size _;have hW':=hbw2.trans (hWa.mono hbw2.size);have hsz:=hW.size;refine OW M q nC W.heap.size A c C _ _ (LX W.heap.size (W.alloc (.cells #[.pointer none] 296))) _ hn ((hr.below hW').more (by omega)) (by simp) hv (Pw v pf (w.heap.size+1) W.heap.size _ ⟨by omega,hBf.below hWa (by omega)⟩ ⟨by omega,hBv.below hWa (by omega)⟩ (by simp)) ⟨AC _ _,none,Blk.new _ _ _,.inl rfl⟩ hsm
 obtain⟨k1,hk1⟩:∃k,k=D4 M q v C (G9 v):=⟨_,rfl⟩;rw[←hk1]at HS1;have e0:(v.choice==2)=true:=by rw[h1];rfl
 have e1:(v.choice !=2)=false:=by rw[bne,e0];rfl
 have HFacts:Hid (∀W,Below W2.heap.size W2 W→AK W (w.heap.size+1) 0 22=some v.cells∧W.cell? ⟨w.heap.size+1,3,none⟩=some (I v.choice)∧W.cell? ⟨pf,0,none⟩=some (.func (.func 264) #[] #[(.pointer (some ⟨w.heap.size+1,0,none⟩))])∧W.cell? ⟨w.heap.size,0,none⟩=some (.int .i64 M)∧W.cell? ⟨w.heap.size,1,none⟩=some (.int .i64 (q:Int))∧W.cell? ⟨w.heap.size,2,none⟩=some (.slice A nC c)):=fun W hW=>
  ⟨(hBv.below hW (by omega)).row 22 rfl,(hBv.below hW (by omega)).cell 3,(hBf.below hW (by omega)).cell 0,(hBc.below hW (by omega)).cell 0,(hBc.below hW (by omega)).cell 1,(hBc.below hW (by omega)).cell 2⟩
 have HW0:=AA hW0;have HW2:=AA hW2;have HPf:=AA hpf;have HB2:=AA hbw2;clear hk1 hn hr hv hsm hq hBc hBv hBf hbw2 hs2 h1 hW2 hFR hW0 hpf hs0 hbw0 hb02 hBc0 hBv0;go_enter Tryz.func226,Tryz.ntmps226;go_upto_region 1 with fail
 simp only[←HW0.out];go_upto_region 2 with fail
 simp only[←HW2.out,←HPf.out];have hcur:Below W2.heap.size W2 W2:=AC _ _;obtain⟨x1,y3,y4,y0,y1,y2⟩:=HFacts.out _ hcur;cases k1
 ·go_wp2_with (go_at_call 257;refine(HS1.out _ hcur).mono ?_;rintro en wa ⟨rfl,hba⟩;replace hcur:=hcur.trans (hba.mono hcur.size))
  go_ret;exact⟨false,rfl,HB2.out.trans (hcur.mono HB2.out.size)⟩
 ·go_upto_region 7 with(go_at_call 257;refine(HS1.out _ hcur).mono ?_;rintro en wa ⟨rfl,hba⟩;replace hcur:=hcur.trans (hba.mono hcur.size);obtain⟨x1,y3,y4,y0,y1,y2⟩:=HFacts.out _ hcur)
  clear x1 y3 y4 y0 y1 y2;obtain⟨x1,y3,y4,y0,y1,y2⟩:=HFacts.out _ (hcur.alloc hcur.size (.cells #[.pointer none] 296));go_wp2_with (go_at_call 222;refine(HH.out wa wa.heap.size hcur rfl).mono ?_;rintro en wb ⟨k,rfl,hbb⟩)
  go_ret;have hb:=HB2.out.trans (hcur.mono HB2.out.size);exact⟨k,rfl,(hb.alloc hb.size _).trans (hbb.mono hb.size)⟩
structure Px (M:Int)(v s:Vt):Prop where
 val:Ae s
 kind:s.kind≤4
 par:s.parent=v.parent
 slot:s.slot=v.slot
 mem:(xOf M).testBit s.signer.toNat=true
theorem LY(M:Int)(nC:Nat)(A:Option Addr)(c:Nat)(C:List Vt)(v:Vt)(w:World)(hn:C.length=nC)(hr:Rd w w.heap.size A (C.flatMap vtc))(hC:∀s∈C,Px M v s)(hsm:nC≤1000000)(hv:Ae v)(hk:v.kind≤4)(hsl:(xOf M).testBit v.slot.toNat=true):Calls Tryz.prog 167 #[.int .i64 M,v.val,.slice A nC c] w fun e w'=>∃b,e= .returned (.bool b)∧Below w.heap.size w w'∧Cq M (B9 (At (xOf M) 10)) v C b:=by
 obtain⟨n,hn'⟩:∃n,n=At (xOf M) 10:=⟨_,rfl⟩;obtain⟨q,hq⟩:∃q,q=B9 n:=⟨_,rfl⟩;have hn10:n≤10:=by rw[hn'];exact D6 _ 10
 have hq10:q≤10:=by rw[hq];unfold B9;omega
 have HSz:Hid (∀W,Calls Tryz.prog 15 #[.int .i64 M] W fun e w'=>e= .returned (.int .i64 (n:Int))∧w'=W):=fun W=>by rw[hn'];exact CU M W
 have HQu:Hid (∀W,Calls Tryz.prog 115 #[.int .i64 (n:Int)] W fun e w'=>e= .returned (.int .i64 (q:Int))∧w'=W):=fun W=>by rw[hq];exact Ej n hn10 W
 rw[←hn',←hq];obtain⟨W1,hW1⟩:∃W1,W1=w.alloc (Obj.cells v.cells 46):=⟨_,rfl⟩;have hbw1:Below w.heap.size w W1:=by rw[hW1];exact(AC _ _).alloc (AB _) _
 have hs1:W1.heap.size=w.heap.size+1:=by rw[hW1];simp
 have hBv:Blk W1 w.heap.size 46 v.cells:=by rw[hW1];exact Blk.new _ _ _
 have HVal:Hid (∀W,Calls Tryz.prog 49 #[v.val] W (Al W true)):=fun W=>by
  have h:=Cm v W ⟨by have:=hv.2.2.2.1;omega,by have:=hv.2.2.2.1;omega⟩;rwa[decide_eq_true hv]at h
 obtain⟨k1,hk1⟩:∃k,k=(xOf M).testBit v.signer.toNat:=⟨_,rfl⟩;have HA1:Hid (∀W,Calls Tryz.prog 19 #[.int .i64 M,.int .i64 v.signer] W fun e w'=>e= .returned (.bool k1)∧w'=W):=fun W=>by rw[hk1];exact DO _ _ hv.2.1.1 hv.2.1.2 W
 have hsb:0≤v.slot∧v.slot≤9:=by
  have h1:=hv.2.2.2.2.1;have h2:=hv.2.2.2.2.2.1;have h3:=hv.2.2.2.2.2.2.1;have h4:=hv.1;rcases(by omega:v.kind=1∨v.kind=2∨v.kind=3∨v.kind=4)with h|h|h|h
  ·exact(h1 (.inl h)).1
  ·exact(h1 (.inr h)).1
  ·exact(h2 h).1
  ·exact(h3 h).1
 have HA2:Hid (∀W,Calls Tryz.prog 19 #[.int .i64 M,.int .i64 v.slot] W fun e w'=>e= .returned (.bool true)∧w'=W):=fun W=>by rw[←hsl];exact DO _ _ hsb.1 hsb.2 W
 have HF1:Hid (∀W,Below W1.heap.size W1 W→AK W w.heap.size 0 22=some v.cells∧W.cell? ⟨w.heap.size,0,none⟩=some (I v.kind)∧W.cell? ⟨w.heap.size,1,none⟩=some (I v.slot)∧W.cell? ⟨w.heap.size,4,none⟩=some (I v.signer)):=fun W hW=>⟨(hBv.below hW (by omega)).row 22 rfl,(hBv.below hW (by omega)).cell 0,(hBv.below hW (by omega)).cell 1,(hBv.below hW (by omega)).cell 4⟩
 have dk:decide (v.kind>4)=false:=by simp;omega
 have HW:=AA hW1;have HB1:=AA hbw1;have HN:=AA hn;have HR:=AA hr;have HC:=AA hC;have HV:=AA hv;have HK1:=AA hk1;have HBv:=AA hBv;clear hW1 hbw1 hBv hn hr hC hv hk1 hn' hq hsl hn10;go_enter Tryz.func167,Tryz.ntmps167;go_upto_region 1 with fail
 simp only[←HW.out];have hcur:Below W1.heap.size W1 W1:=AC _ _;obtain⟨x0,y0,y1,y4⟩:=HF1.out _ hcur;cases k1
 ·go_wp2_with (first
   |(go_at_call 49;refine(HVal.out _).mono ?_;rintro en wa ⟨rfl,hba⟩;replace hcur:=hcur.trans (hba.mono hcur.size);obtain⟨x0,y0,y1,y4⟩:=HF1.out _ hcur;clear HVal)
   |(go_at_call 19;refine(HA1.out _).mono ?_;rintro en w2 ⟨rfl,hw2⟩;replace hw2:=hw2.symm;subst hw2;clear HA1))
  go_ret;refine⟨false,rfl,HB1.out.trans (hcur.mono HB1.out.size),?_⟩;unfold Cq;split
  ·intro h;cases h
  ·rw[←HK1.out];rfl
 ·go_upto_region 3 with(first
   |(go_at_call 49;refine(HVal.out _).mono ?_;rintro en wa ⟨rfl,hba⟩;replace hcur:=hcur.trans (hba.mono hcur.size);obtain⟨x0,y0,y1,y4⟩:=HF1.out _ hcur;clear HVal hba)
   |(go_at_call 19;refine(HA1.out _).mono ?_;rintro en w2 ⟨rfl,hw2⟩;replace hw2:=hw2.symm;subst hw2;clear HA1)
   |(go_at_call 19;refine(HA2.out _).mono ?_;rintro en w2 ⟨rfl,hw2⟩;replace hw2:=hw2.symm;subst hw2;clear HA2))
  go_upto_region 4 with(first
   |(go_at_call 15;refine(HSz.out _).mono ?_;rintro en w2 ⟨rfl,hw2⟩;replace hw2:=hw2.symm;subst hw2)
   |(go_at_call 115;refine(HQu.out _).mono ?_;rintro en w2 ⟨rfl,hw2⟩;replace hw2:=hw2.symm;subst hw2))
  obtain⟨pc,hpc⟩:∃p,p=wa.heap.size:=⟨_,rfl⟩;obtain⟨W3,hW3⟩:∃W3,W3=wa.alloc (.cells #[.int .i64 M,.int .i64 (q:Int),.slice none 0 0] 269):=⟨_,rfl⟩;have hs3:W3.heap.size=pc+1:=by rw[hW3,hpc];simp
  have hB3:Blk W3 pc 269 #[.int .i64 M,.int .i64 (q:Int),.slice none 0 0]:=by rw[hW3,hpc];exact Blk.new _ _ _
  have hc3:Below W1.heap.size W1 W3:=by rw[hW3];exact hcur.alloc hcur.size _
  have hpw:w.heap.size<pc:=by have:=hcur.size;omega
  have hw3:Below w.heap.size w W3:=HB1.out.trans (hc3.mono HB1.out.size);simp only[←hW3,←hpc];have HC3:=AA hc3;have HW3:=AA hw3;have HP:=AA hpc;clear hW3 hpc hcur hc3 hw3 x0 y0 y1 y4 dk HF1 HSz HQu hs1;go_wp2
  go_loopw [39] (fun iv wr=>∃(i:Nat) (vs:Value),iv= .int .i64 (i:Int)∧i≤nC∧Hid (wr.ownsRow (pc+1) 46 22 vs i ((C.take i).flatMap vtc))∧Hid (Blk wr pc 269 #[.int .i64 M,.int .i64 (q:Int),vs])∧Below pc W3 wr∧pc+1≤wr.heap.size) (fun iv _=>nC-(intOf iv).toNat)
  case atStart=>exact⟨0,_,rfl,by omega,by rw[List.take_zero];exact⟨rfl,.inl ⟨rfl,rfl⟩⟩,hB3,AC _ _,by omega⟩
  case round=>
   obtain⟨i,vs,rfl,hin,HOwn,HBc,hbr,hsz⟩:=hrel;have hbw:Below w.heap.size w wr:=HW3.out.trans (hbr.mono (by omega));by_cases hi:i<nC
   ·have di:decide ((i:Int)<(nC:Int))=true:=by simp;omega
    have ik:(i:Int)<(nC:Int):=by omega
    have hil:i≤1000000:=by omega
    obtain⟨s,hs⟩:∃s,C[i]? =some s:=⟨_,AE (by rw[HN.out];exact hi)⟩;obtain⟨b,o,rfl,hb,hcell⟩:=HR.out.cells (by intro e;have:=AX vtc 22 C (B6 C);rw[e,HN.out]at this;simp at this;omega);clear hcell;have x1:AK wr b (o+i*22) 22=some s.cells:=(HR.out.below hbw).voteRow hs;have hcs:=HC.out s (AM hs);have HTake:Hid ((C.take (i+1)).flatMap vtc=(C.take i).flatMap vtc++vtc s):=by
     unfold Hid;rw[Ag,hs,Ad];simp
    obtain⟨T,hT⟩:∃T,T=(C.take i).flatMap vtc:=⟨_,rfl⟩;rw[←hT]at HOwn HTake;clear hs hT;have HVs:Hid (∀W,Calls Tryz.prog 49 #[s.val] W (Al W true)):=fun W=>by
     have h:=Cm s W ⟨by have:=hcs.val.2.2.2.1;omega,by have:=hcs.val.2.2.2.1;omega⟩;rwa[decide_eq_true hcs.val]at h
    have HAs:Hid (∀W,Calls Tryz.prog 19 #[.int .i64 M,.int .i64 s.signer] W fun e w'=>e= .returned (.bool true)∧w'=W):=fun W=>by rw[←hcs.mem];exact DO _ _ hcs.val.2.1.1 hcs.val.2.1.2 W
    have d1:decide (s.kind≤4)=true:=decide_eq_true hcs.kind;have d1':=hcs.kind;have d2:(s.slot==v.slot)=true:=by rw[hcs.slot];simp
    have d3:∀W,(Op.equalIn 10000 24 s.parent.val v.parent.val).run Tryz.prog W= .ok true W:=fun W=>by have h:=Dz s.parent v.parent W 9998;rwa[decide_eq_true hcs.par]at h
    clear hcs;go_upto_region 7 with(refine AJ rfl 46 (.tmp 9) (.tmp 42) rfl wr.heap.size s.cells rfl rfl 46 Bk.cells (Blk.new wr _ _) (by rfl) (by kernel_rfl) (fun u hu=>BM s hu) ?_;intro w4 hB4 hg4 hsz4)
    have hw4:w4.heap.size=wr.heap.size+1:=by rw[hsz4];simp
    have HOwn4:Hid (w4.ownsRow (pc+1) 46 22 vs i T):=BZ (HOwn.out.alloc _) hg4 (fun k hk=>by
     injection hk with hk
     subst hk;right;intro e;have:=(HOwn.out.lt _ e).2;omega)
    have hBc4:Blk w4 pc 269 #[.int .i64 M,.int .i64 (q:Int),vs]:=(HBc.out.alloc _).kept hg4 (by intro e;injection e with e;omega);have hb4:Below pc W3 w4:=(hbr.alloc (by omega) _).grown hg4 (by simp;omega) (fun k hk=>by injection hk with hk;subst hk;omega);have hBv4:Blk w4 w.heap.size 46 v.cells:=((HBv.out.below HC3.out HBv.out.lt).below hb4 hpw);obtain⟨ps,hps⟩:∃p,p=wr.heap.size:=⟨_,rfl⟩;rw[←hps]at hB4 hw4 ⊢;have HF4:Hid (∀W,Below w4.heap.size w4 W→AK W ps 0 22=some s.cells∧AK W ps 6 8=some s.parent.cells∧AK W w.heap.size 6 8=some v.parent.cells∧W.cell? ⟨ps,1,none⟩=some (I s.slot)∧W.cell? ⟨w.heap.size,1,none⟩=some (I v.slot)∧W.cell? ⟨ps,0,none⟩=some (I s.kind)∧W.cell? ⟨ps,4,none⟩=some (I s.signer)∧W.cell? ⟨pc,2,none⟩=some vs):=fun W hW=>
     have h1:=hB4.below hW (by omega);have h2:=hBv4.below hW (by omega)
     ⟨h1.row 22 rfl,s.row_parent h1,v.row_parent h2,h1.cell 1,h2.cell 1,h1.cell 0,h1.cell 4,(hBc4.below hW (by omega)).cell 2⟩
    have HBc4:=AA hBc4;have Hb4:=AA hb4;have HPs:Hid (pc+1≤ps∧ps<w4.heap.size):=by unfold Hid;omega
    have hcur:Below w4.heap.size w4 w4:=AC _ _;obtain⟨x0,x2,x3,y1,y2,y3,y4,y5⟩:=HF4.out _ hcur;clear hB4 hg4 hsz4 x1 HOwn hbr hBc4 hb4 hBv4 hps HBc hbw hsz;try go_frame
    go_upto_region 8 with(first
     |(go_at_call 49;refine(HVs.out _).mono ?_;rintro en w5 ⟨rfl,hb5⟩;replace hcur:=hcur.trans (hb5.mono hcur.size);clear x0 x2 x3 y1 y2 y3 y4 y5;obtain⟨x0,x2,x3,y1,y2,y3,y4,y5⟩:=HF4.out _ hcur;clear hb5)
     |(go_at_call 19;refine(HAs.out _).mono ?_;rintro en w2 ⟨rfl,hw2⟩;replace hw2:=hw2.symm;subst hw2))
    have hs5:=hcur.size;have HOwn5:Hid (w5.ownsRow (pc+1) 46 22 vs i T):=BA HOwn4.out hcur (AB _);have hB5:Blk w5 pc 269 #[.int .i64 M,.int .i64 (q:Int),vs]:=HBc4.out.below hcur (by have:=HPs.out;omega);have HB5:=AA hB5;have hb35:Below pc W3 w5:=Hb4.out.trans (hcur.mono (by have:=HPs.out;omega));have Hb35:=AA hb35;have hpz:pc+1≤w5.heap.size:=by have:=HPs.out;omega
    clear x2 x3 y1 y2 y3 y4 HF4 hB5 hb35 hcur;try go_frame
    go_wp2_with ((first
     |(refine BP rfl 56 46 (.tmp 72) rfl s.cells rfl Tryz.underlying56 (by kernel_rfl) (by decide) (by decide) ?_)
     |(at_builtin;refine Aq rfl (.tmp 71) (.tmp 73) _ rfl (pc+1) 46 (.agg Bk.cells) 22 64 Tryz.underlying56 CA rfl (by decide) vs i T rfl ?r0 (w5.heap.size+1) (some ⟨w5.heap.size,0,none⟩) 1 1 (vtc s) rfl ?r1 ?r2 ?r3 ?r4 ?r5 ?r6 ?_)))
    case r0=>exact HOwn5.out.alloc _
    case r1=>rfl
    case r2=>exact Rd.mk (by omega) (fun j u hu=>by rw[Nat.zero_add,(Blk.new w5 _ _).cell];simpa using hu)
    case r3=>exact fun u hu=>BM s hu
    case r4=>omega
    case r5=>unfold maxLen;omega
    case r6=>simp;omega
    intro v6 w6 hown6 hg6 hat6;obtain⟨A6,c6,hv6⟩:=Ar hown6;subst hv6;have hB6:Blk w6 pc 269 #[.int .i64 M,.int .i64 (q:Int),vs]:=(HB5.out.alloc _).kept hg6 (Qy HOwn5.out (by omega));have z5:w6.cell? ⟨pc,2,none⟩=some vs:=hB6.cell 2;have z6:w6.frozen? ⟨pc,2,none⟩=false:=hB6.frozen 2;go_wp2;have hg7:w6.grownBy (w6.setCell ⟨pc,2,none⟩ (.slice A6 (i+1) c6)) (some pc):=Bi ⟨rfl,rfl,rfl,AB _,fun _ _ _=>rfl⟩ rfl _;have hown7:=BZ hown6 hg7 (fun k hk=>by injection hk with hk;subst hk;exact .inr (Qy hown6 (by omega)).symm);have hB7:=hB6.put 2 (.slice A6 (i+1) c6);have hb6:Below pc W3 w6:=(Hb35.out.alloc (by omega) _).grown hg6 (by simp;omega) (fun k hk=>by have:=(HOwn5.out.alloc (.cells s.cells 46)).lt k hk;omega);have hb7:=hb6.setCell (p:=⟨pc,2,none⟩) (AB _) (.slice A6 (i+1) c6);have hs6:=hg6.size;simp at hs6;have hs7:=hg7.size;go_roundw
    case rel=>exact⟨i+1,_,by go_num,by omega,by rw[HTake.out];exact hown7,hB7,hb7,by omega⟩
    case measure=>simp[intOf];omega
   ·have di:decide ((i:Int)<(nC:Int))=false:=by simp;omega
    obtain rfl:nC=i:=by omega
    obtain⟨A8,c8,hv8⟩:=Ar HOwn.out;subst hv8;have hR8:Rd wr wr.heap.size A8 (C.flatMap vtc):=by
     have h:=Rd.of_own HOwn.out;rwa[show C.take nC=C from by rw[←HN.out,List.take_length]]at h
    have hv0:=HV.out;have hBvr:Blk wr w.heap.size 46 v.cells:=(HBv.out.below HC3.out HBv.out.lt).below hbr hpw;have hlt:=hBvr.lt;have hCv:∀s∈C,Ae s:=fun s hs=>(HC.out s hs).val
    have HHas:Hid (∀W,Below wr.heap.size wr W→Calls Tryz.prog 222 #[.agg #[.int .i64 M,.int .i64 (q:Int),.slice A8 nC c8],.func (.func 223) #[] #[.pointer (some ⟨w.heap.size,0,none⟩)]] W (Al W (C.any (LW v)))):=fun W hW=>
     GV M q nC A8 c8 C _ _ _ W HN.out ((hR8.below hW).more hW.size) hCv (Pq v w.heap.size W.heap.size W ⟨by have:=hW.size;omega,hBvr.below hW hlt⟩) hsm
    have HPv:Hid (v.kind=3→∀W,Below wr.heap.size wr W→Calls Tryz.prog 225 #[.agg #[.int .i64 M,.int .i64 (q:Int),.slice A8 nC c8],v.val] W (Al W (Fq M q v C))):=fun h3 W hW=>by
     by_cases h:v.round=1
     ·exact Ml M q nC A8 c8 C v W HN.out ((hR8.below hW).more hW.size) hCv hsm hq10 h
     ·exact Mm M q nC A8 c8 C v W HN.out ((hR8.below hW).more hW.size) hCv hsm hq10 h (hv0.2.2.2.2.2.1 h3).2.1
    have HPc1:Hid (v.choice≠2→∀W,Below wr.heap.size wr W→Calls Tryz.prog 226 #[.agg #[.int .i64 M,.int .i64 (q:Int),.slice A8 nC c8],v.val] W (Al W (D4 M q v C (Iz v)))):=fun h W hW=>
     Mn M q nC A8 c8 C v W HN.out ((hR8.below hW).more hW.size) hCv hsm hq10 h
    have HPc2:Hid (v.choice=2→∀W,Below wr.heap.size wr W→Calls Tryz.prog 226 #[.agg #[.int .i64 M,.int .i64 (q:Int),.slice A8 nC c8],v.val] W fun e w'=>∃b,e= .returned (.bool b)∧Below W.heap.size W w'):=fun h W hW=>
     Mo M q nC A8 c8 C v W HN.out ((hR8.below hW).more hW.size) hCv hsm hq10 h
    have HBw:=AA hbw;have x0:AK wr w.heap.size 0 22=some v.cells:=hBvr.row 22 rfl;have y0:wr.cell? ⟨w.heap.size,0,none⟩=some (I v.kind):=hBvr.cell 0;have y1:wr.cell? ⟨w.heap.size,1,none⟩=some (I v.slot):=hBvr.cell 1;have y4:wr.cell? ⟨w.heap.size,4,none⟩=some (I v.signer):=hBvr.cell 4;have z0:wr.cell? ⟨pc,0,none⟩=some (.int .i64 M):=HBc.out.cell 0;have z1:wr.cell? ⟨pc,1,none⟩=some (.int .i64 (q:Int)):=HBc.out.cell 1;have z2:wr.cell? ⟨pc,2,none⟩=some (.slice A8 nC c8):=HBc.out.cell 2;have hkk:v.kind=1∨v.kind=2∨v.kind=3∨v.kind=4:=by have:=hv0.1;omega
    clear hR8 hv0 hBvr hlt hCv HOwn HBc hbr hbw hsz;rcases hkk with h|h|h|h
    ·have e1:(v.kind==1)=true:=by rw[h];rfl
     obtain⟨k2,hk2⟩:∃k,k=decide (v.signer=v.slot):=⟨_,rfl⟩;have e2:(v.signer==v.slot)=k2:=by rw[hk2];rfl
     have HK2:=AA hk2;have HH:=AA h;clear hk2 h;go_wp2;go_ret;refine⟨k2,rfl,HBw.out,?_⟩;unfold Cq Dc;rw[if_neg (by rw[HH.out];omega),if_pos HH.out,←HK1.out,HK2.out];rfl
    ·have e1:(v.kind==1)=false:=by rw[h];rfl
     have e2:(v.kind==2)=true:=by rw[h];rfl
     have HH:=AA h;clear h;go_wp2_with (go_at_call 222;refine(HHas.out _ (AC _ _)).mono ?_;rintro en w9 ⟨rfl,hb9⟩)
     go_ret;refine⟨_,rfl,HBw.out.trans (hb9.mono HBw.out.size),?_⟩;unfold Cq Dc;rw[if_neg (by rw[HH.out];omega),if_neg (by rw[HH.out];omega),if_pos HH.out,←HK1.out];rfl
    ·have e1:(v.kind==1)=false:=by rw[h];rfl
     have e2:(v.kind==2)=false:=by rw[h];rfl
     have e3:(v.kind==3)=true:=by rw[h];rfl
     have HP3:=AA (HPv.out h);have HH:=AA h;clear h;go_wp2_with (go_at_call 225;refine(HP3.out _ (AC _ _)).mono ?_;rintro en w9 ⟨rfl,hb9⟩)
     go_ret;refine⟨_,rfl,HBw.out.trans (hb9.mono HBw.out.size),?_⟩;unfold Cq Dc;rw[if_neg (by rw[HH.out];omega),if_neg (by rw[HH.out];omega),if_neg (by rw[HH.out];omega),if_pos HH.out,←HK1.out];rfl
    ·have e1:(v.kind==1)=false:=by rw[h];rfl
     have e2:(v.kind==2)=false:=by rw[h];rfl
     have e3:(v.kind==3)=false:=by rw[h];rfl
     have HH:=AA h;clear h;by_cases hc2:v.choice=2
     ·have HP4:=AA (HPc2.out hc2);have HC2:=AA hc2;clear hc2;go_wp2_with (go_at_call 226;refine(HP4.out _ (AC _ _)).mono ?_;rintro en w9 ⟨k9,rfl,hb9⟩)
      go_ret;refine⟨k9,rfl,HBw.out.trans (hb9.mono HBw.out.size),?_⟩;unfold Cq;rw[if_pos ⟨HH.out,HC2.out⟩,←HK1.out];exact fun _=>rfl
     ·have HP4:=AA (HPc1.out hc2);have HC2:=AA hc2;clear hc2;go_wp2_with (go_at_call 226;refine(HP4.out _ (AC _ _)).mono ?_;rintro en w9 ⟨rfl,hb9⟩)
      go_ret;refine⟨_,rfl,HBw.out.trans (hb9.mono HBw.out.size),?_⟩;unfold Cq Dc;rw[if_neg (fun h=>HC2.out h.2),if_neg (by rw[HH.out];omega),if_neg (by rw[HH.out];omega),if_neg (by rw[HH.out];omega),←HK1.out];rfl
end
section
open Go.RowKit
attribute [local go_sem ↓] Go.wp_at_zero Go.wp_at_succ An Au Av Aw
attribute [local go_sem] BD BH BI BJ AN AW AQ
def Mp(M:Int)(O:List Vt):Prop:=∀k x,O[k]? =some x→Cq M (B9 (At (xOf M) 10)) x (O.take k) true
theorem Mp.nil(M:Int):Mp M []:=fun k x h=>by simp at h
theorem Mp.snoc{M:Int}{O:List Vt}{x:Vt}(h:Mp M O)(hx:Cq M (B9 (At (xOf M) 10)) x O true):Mp M (O++[x]):=by
 intro k y hy;by_cases hk:k<O.length
 ·rw[List.getElem?_append_left hk]at hy;rw[List.take_append_of_le_length (Nat.le_of_lt hk)];exact h k y hy
 ·rw[List.getElem?_append_right (by omega)]at hy;have h0:k-O.length=0:=by
   have:=(AG.1 hy).1;simpa using this
  rw[h0]at hy;simp only[List.getElem?_cons_zero,Option.some.injEq]at hy;have hkO:k=O.length:=by omega
  subst hkO;rw[←hy,List.take_append_of_le_length (AB _),List.take_length];exact hx
theorem J2{M:Int}{q:Nat}{v:Vt}{C:List Vt}(h:Cq M q v C true):(xOf M).testBit v.signer.toNat=true:=by
 unfold Cq at h;split at h
 ·exact h rfl
 ·rw[eq_comm,Bool.and_eq_true]at h;exact h.1
def Tp(s:Int)(v:Vt):Prop:=Ae v∧v.kind≤4∧v.slot=s
def Py(M:Int)(p:Nm)(s:Int)(D O:List Vt):Prop:=Mp M O∧∀x∈O,x∈D∧Tp s x∧x.parent=p∧(xOf M).testBit x.signer.toNat=true
end
end Go.Proofs.YtadllffeoibelaaGreat
