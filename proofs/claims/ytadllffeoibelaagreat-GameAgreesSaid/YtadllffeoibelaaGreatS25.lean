/-
  What these parts of the proof come to, functions walked and plain laws: Jus3, Jus4. No condition.
-/
import Derived.Test.YtadllffeoibelaaGreatS24
import Derived.Laws.EntriesVeiled
import Derived.Test.YtadllffeoibelaaGreatS6
namespace Go.Proofs.YtadllffeoibelaaGreat
set_option maxRecDepth 100000
set_option maxHeartbeats 32000000
set_option linter.all false
section
open Go.RowKit Go.Shelf
attribute [local go_sem ↓] Go.wp_at_zero Go.wp_at_succ An Au Av Aw
attribute [local go_sem] BD BH BI BJ AN AW AQ
theorem Ml(M:Int)(q nC:Nat)(A:Option Addr)(c:Nat)(C:List Vt)(v:Vt)(w:World)(hn:C.length=nC)(hr:Rd w w.heap.size A (C.flatMap vtc))(hv:∀v∈C,Ae v)(hsm:nC≤1000000)(hq:q≤10)(h1:v.round=1):Calls Tryz.prog 225 #[.agg #[.int .i64 M,.int .i64 (q:Int),.slice A nC c],v.val] w (Al w (Fq M q v C)):=by
 obtain⟨W2,hW2⟩:∃W2,W2=(w.alloc (.cells #[.int .i64 M,.int .i64 (q:Int),.slice A nC c] 269)).alloc (.cells v.cells 46):=⟨_,rfl⟩;have hbw2:Below w.heap.size w W2:=by rw[hW2];exact((AC _ _).alloc (AB _) _).alloc (by simp) _
 have hs2:W2.heap.size=w.heap.size+1+1:=by rw[hW2];simp
 have hBc:Blk W2 w.heap.size 269 #[.int .i64 M,.int .i64 (q:Int),.slice A nC c]:=by rw[hW2];exact(Blk.new w _ _).alloc _
 have hBv:Blk W2 (w.heap.size+1) 46 v.cells:=by
  have h:=Blk.new (w.alloc (.cells #[.int .i64 M,.int .i64 (q:Int),.slice A nC c] 269)) 46 v.cells;rw[World.size_alloc]at h;rw[hW2];exact h
 have HS:Hid (∀W,Below W2.heap.size W2 W→Calls Tryz.prog 257 #[.agg #[.int .i64 M,.int .i64 (q:Int),.slice A nC c],v.val,.func (.func 258) #[] #[(.pointer (some ⟨w.heap.size+1,0,none⟩))]] W (Al W (D4 M q v C (J0 v)))):=fun W hW=>by
  have hW':=hbw2.trans (hW.mono hbw2.size);have BV:GU W.heap.size W (w.heap.size+1) v:=⟨by have:=hW.size;omega,hBv.below hW (by omega)⟩;exact FE M q nC A c C v _ _ _ W hn ((hr.below hW').more hW'.size) hv (Pr v (w.heap.size+1) W.heap.size W BV) hsm hq
 obtain⟨k1,hk1⟩:∃k,k=decide (v.choice=0):=⟨_,rfl⟩;have e1:(v.choice==0)=k1:=by rw[hk1];rfl
 obtain⟨k2,hk2⟩:∃k,k=D4 M q v C (J0 v):=⟨_,rfl⟩;have hres:Fq M q v C=(k1||k2):=by unfold Fq;rw[if_pos h1,hk1,hk2]
 rw[←hk2]at HS;have e0:(v.round==1)=true:=by rw[h1];rfl
 have HRes:=AA hres;have HB2:=AA hbw2;have HFacts:Hid (∀W,Below W2.heap.size W2 W→AK W (w.heap.size+1) 0 22=some v.cells∧W.cell? ⟨w.heap.size+1,3,none⟩=some (I v.choice)∧W.cell? ⟨w.heap.size,0,none⟩=some (.int .i64 M)∧W.cell? ⟨w.heap.size,1,none⟩=some (.int .i64 (q:Int))∧W.cell? ⟨w.heap.size,2,none⟩=some (.slice A nC c)):=fun W hW=>
  ⟨(hBv.below hW (by omega)).row 22 rfl,(hBv.below hW (by omega)).cell 3,(hBc.below hW (by omega)).cell 0,(hBc.below hW (by omega)).cell 1,(hBc.below hW (by omega)).cell 2⟩
 clear hk1 hk2 hres hn hr hv hsm hq hBc hBv hbw2 hs2 h1;have HW:=AA hW2;clear hW2;go_enter Tryz.func225,Tryz.ntmps225;cases k1
 ·go_upto_region 2 with fail
  simp only[←HW.out];obtain⟨x1,y3,y0,y1,y2⟩:=HFacts.out _ (AC _ _);go_wp2_with (go_at_call 257;refine(HS.out _ (AC _ _)).mono ?_;rintro en w3 ⟨rfl,hb3⟩)
  go_ret;exact⟨by rw[HRes.out];rfl,HB2.out.trans (hb3.mono HB2.out.size)⟩
 ·go_upto_region 2 with fail
  simp only[←HW.out];obtain⟨x1,y3,y0,y1,y2⟩:=HFacts.out _ (AC _ _);go_wp2;go_ret;exact⟨by rw[HRes.out];rfl,HB2.out⟩
theorem Mm(M:Int)(q nC:Nat)(A:Option Addr)(c:Nat)(C:List Vt)(v:Vt)(w:World)(hn:C.length=nC)(hr:Rd w w.heap.size A (C.flatMap vtc))(hv:∀v∈C,Ae v)(hsm:nC≤1000000)(hq:q≤10)(h1:v.round≠1)(hrd:1≤v.round∧v.round≤12):Calls Tryz.prog 225 #[.agg #[.int .i64 M,.int .i64 (q:Int),.slice A nC c],v.val] w (Al w (Fq M q v C)):=by
 obtain⟨W0,hW0⟩:∃W0,W0=(w.alloc (.cells #[.int .i64 M,.int .i64 (q:Int),.slice A nC c] 269)).alloc (.cells v.cells 46):=⟨_,rfl⟩;have hbw0:Below w.heap.size w W0:=by rw[hW0];exact((AC _ _).alloc (AB _) _).alloc (by simp) _
 have hs0:W0.heap.size=w.heap.size+1+1:=by rw[hW0];simp
 have hBc0:Blk W0 w.heap.size 269 #[.int .i64 M,.int .i64 (q:Int),.slice A nC c]:=by rw[hW0];exact(Blk.new w _ _).alloc _
 have hBv0:Blk W0 (w.heap.size+1) 46 v.cells:=by
  have h:=Blk.new (w.alloc (.cells #[.int .i64 M,.int .i64 (q:Int),.slice A nC c] 269)) 46 v.cells;rw[World.size_alloc]at h;rw[hW0];exact h
 have y9:W0.cell? ⟨w.heap.size+1,2,none⟩=some (I v.round):=hBv0.cell 2;obtain⟨pf,hpf⟩:∃p,p=W0.heap.size:=⟨_,rfl⟩;obtain⟨W1,hW1⟩:∃W1,W1=W0.alloc (.cells #[.func (.func 259) #[] #[(.pointer (some ⟨w.heap.size+1,0,none⟩))]] 110):=⟨_,rfl⟩;have hs1:W1.heap.size=pf+1:=by rw[hW1,hpf];simp
 obtain⟨pg,hpg⟩:∃p,p=W1.heap.size:=⟨_,rfl⟩;obtain⟨W2,hW2⟩:∃W2,W2=W1.alloc (.cells #[.func (.func 260) #[] #[(.pointer (some ⟨w.heap.size+1,0,none⟩))]] 110):=⟨_,rfl⟩;have hs2:W2.heap.size=pg+1:=by rw[hW2,hpg];simp
 have hb01:Below W0.heap.size W0 W1:=by rw[hW1];exact(AC _ _).alloc (AB _) _
 have hb12:Below W1.heap.size W1 W2:=by rw[hW2];exact(AC _ _).alloc (AB _) _
 have hbw1:Below w.heap.size w W1:=hbw0.trans (hb01.mono hbw0.size);have hbw2:Below w.heap.size w W2:=hbw1.trans (hb12.mono hbw1.size);have hBc:Blk W2 w.heap.size 269 #[.int .i64 M,.int .i64 (q:Int),.slice A nC c]:=(hBc0.below hb01 (by omega)).below hb12 (by omega);have hBv:Blk W2 (w.heap.size+1) 46 v.cells:=(hBv0.below hb01 (by omega)).below hb12 (by omega);have hBf:Blk W2 pf 110 #[.func (.func 259) #[] #[(.pointer (some ⟨w.heap.size+1,0,none⟩))]]:=by
  have h:=Blk.new W0 110 #[.func (.func 259) #[] #[(.pointer (some ⟨w.heap.size+1,0,none⟩))]];rw[←hW1,←hpf]at h;exact h.below hb12 (by omega)
 have hBg:Blk W2 pg 110 #[.func (.func 260) #[] #[(.pointer (some ⟨w.heap.size+1,0,none⟩))]]:=by
  have h:=Blk.new W1 110 #[.func (.func 260) #[] #[(.pointer (some ⟨w.heap.size+1,0,none⟩))]];rwa[←hW2,←hpg]at h
 have hFV:∀W,Below W2.heap.size W2 W→By W.heap.size W 259 #[(.pointer (some ⟨w.heap.size+1,0,none⟩))] (KU v):=fun W hW=>RV v hrd (w.heap.size+1) W.heap.size W ⟨by have:=hW.size;omega,hBv.below hW (by omega)⟩
 have hFM:∀W,Below W2.heap.size W2 W→By W.heap.size W 260 #[(.pointer (some ⟨w.heap.size+1,0,none⟩))] (Jf v):=fun W hW=>RW v hrd (w.heap.size+1) W.heap.size W ⟨by have:=hW.size;omega,hBv.below hW (by omega)⟩
 have hBF:∀W,Below W2.heap.size W2 W→Jg W.heap.size W pf 259 #[(.pointer (some ⟨w.heap.size+1,0,none⟩))]:=fun W hW=>⟨by have:=hW.size;omega,hBf.below hW (by omega)⟩
 have hBG:∀W,Below W2.heap.size W2 W→Jg W.heap.size W pg 260 #[(.pointer (some ⟨w.heap.size+1,0,none⟩))]:=fun W hW=>⟨by have:=hW.size;omega,hBg.below hW (by omega)⟩
 have HS1:Hid (∀W,Below W2.heap.size W2 W→Calls Tryz.prog 257 #[.agg #[.int .i64 M,.int .i64 (q:Int),.slice A nC c],v.val,.func (.func 261) #[] #[(.pointer (some ⟨pf,0,none⟩)),(.pointer (some ⟨pg,0,none⟩))]] W (Al W (D4 M q v C (NZ v)))):=fun W hW=>by
  have hW':=hbw2.trans (hW.mono hbw2.size);have _BV:GU W.heap.size W (w.heap.size+1) v:=⟨by have:=hW.size;omega,hBv.below hW (by omega)⟩;exact FE M q nC A c C v _ _ _ W hn ((hr.below hW').more hW'.size) hv (Pt (KU v) (Jf v) pf pg _ _ W.heap.size _ _ W (hBF W hW) (hBG W hW) (hFV W hW) (hFM W hW) (AB _)) hsm hq
 have HS2:Hid (∀W,Below W2.heap.size W2 W→Calls Tryz.prog 257 #[.agg #[.int .i64 M,.int .i64 (q:Int),.slice A nC c],v.val,.func (.func 260) #[] #[(.pointer (some ⟨w.heap.size+1,0,none⟩))]] W (Al W (D4 M q v C (Jf v)))):=fun W hW=>by
  have hW':=hbw2.trans (hW.mono hbw2.size);have _BV:GU W.heap.size W (w.heap.size+1) v:=⟨by have:=hW.size;omega,hBv.below hW (by omega)⟩;exact FE M q nC A c C v _ _ _ W hn ((hr.below hW').more hW'.size) hv (hFM W hW) hsm hq
 have HH1:Hid (∀W,Below W2.heap.size W2 W→Calls Tryz.prog 222 #[.agg #[.int .i64 M,.int .i64 (q:Int),.slice A nC c],.func (.func 262) #[] #[(.pointer (some ⟨w.heap.size+1,0,none⟩)),(.pointer (some ⟨pf,0,none⟩))]] W (Al W (C.any (pIn v)))):=fun W hW=>by
  have hW':=hbw2.trans (hW.mono hbw2.size);exact GV M q nC A c C _ _ _ W hn ((hr.below hW').more hW'.size) hv (Sz v (KU v) (w.heap.size+1) pf _ W.heap.size _ W ⟨by have:=hW.size;omega,hBv.below hW (by omega)⟩ (hBF W hW) (hFV W hW) (AB _)) hsm
 have HH2:Hid (∀W,Below W2.heap.size W2 W→Calls Tryz.prog 222 #[.agg #[.int .i64 M,.int .i64 (q:Int),.slice A nC c],.func (.func 263) #[] #[(.pointer (some ⟨w.heap.size+1,0,none⟩))]] W (Al W (C.any (J1 v)))):=fun W hW=>by
  have hW':=hbw2.trans (hW.mono hbw2.size);exact GV M q nC A c C _ _ _ W hn ((hr.below hW').more hW'.size) hv (Ps v hrd (w.heap.size+1) W.heap.size W ⟨by have:=hW.size;omega,hBv.below hW (by omega)⟩) hsm
 obtain⟨k1,hk1⟩:∃k,k=D4 M q v C (NZ v):=⟨_,rfl⟩;obtain⟨k2,hk2⟩:∃k,k=C.any (pIn v):=⟨_,rfl⟩;obtain⟨k3,hk3⟩:∃k,k=D4 M q v C (Jf v):=⟨_,rfl⟩;obtain⟨k4,hk4⟩:∃k,k=C.any (J1 v):=⟨_,rfl⟩;have hres:Fq M q v C=((k1&&k2)||(k3&&k4)):=by unfold Fq;rw[if_neg h1,hk1,hk2,hk3,hk4]
 rw[←hk1]at HS1;rw[←hk2]at HH1;rw[←hk3]at HS2;rw[←hk4]at HH2;have e0:(v.round==1)=false:=by simp[h1]
 have HRes:=AA hres;have HB2:=AA hbw2;have HFacts:Hid (∀W,Below W2.heap.size W2 W→AK W (w.heap.size+1) 0 22=some v.cells∧W.cell? ⟨pg,0,none⟩=some (.func (.func 260) #[] #[(.pointer (some ⟨w.heap.size+1,0,none⟩))])∧W.cell? ⟨w.heap.size,0,none⟩=some (.int .i64 M)∧W.cell? ⟨w.heap.size,1,none⟩=some (.int .i64 (q:Int))∧W.cell? ⟨w.heap.size,2,none⟩=some (.slice A nC c)):=fun W hW=>
  ⟨(hBv.below hW (by omega)).row 22 rfl,(hBg.below hW (by omega)).cell 0,(hBc.below hW (by omega)).cell 0,(hBc.below hW (by omega)).cell 1,(hBc.below hW (by omega)).cell 2⟩
 have HW0:=AA hW0;have HW1:=AA hW1;have HW2:=AA hW2;have HPf:=AA hpf;have HPg:=AA hpg;clear hk1 hk2 hk3 hk4 hres hn hr hv hsm hq hBc hBv hBf hBg hbw2 hs2 h1 hW2 hFV hFM hBF hBG hrd hW0 hW1 hpf hpg hs0 hs1 hbw0 hbw1 hb01 hb12 hBc0 hBv0;go_enter Tryz.func225,Tryz.ntmps225;go_upto_region 1 with fail
 simp only[←HW0.out];go_upto_region 4 with fail
 simp only[←HW1.out,←HPf.out];go_upto_region 6 with fail
 simp only[←HW2.out,←HPg.out];have hcur:Below W2.heap.size W2 W2:=AC _ _;obtain⟨x1,y3,y0,y1,y2⟩:=HFacts.out _ hcur;cases k1
 ·clear HH1;cases k3
  ·go_wp2_with (first|(go_at_call 257;refine(HS1.out _ hcur).mono ?_;rintro en wa ⟨rfl,hba⟩;replace hcur:=hcur.trans (hba.mono hcur.size);obtain⟨x1,y3,y0,y1,y2⟩:=HFacts.out _ hcur;clear HS1)|(go_at_call 222;refine(HH1.out _ hcur).mono ?_;rintro en wa ⟨rfl,hba⟩;replace hcur:=hcur.trans (hba.mono hcur.size);obtain⟨x1,y3,y0,y1,y2⟩:=HFacts.out _ hcur;clear HH1)|(go_at_call 257;refine(HS2.out _ hcur).mono ?_;rintro en wa ⟨rfl,hba⟩;replace hcur:=hcur.trans (hba.mono hcur.size);obtain⟨x1,y3,y0,y1,y2⟩:=HFacts.out _ hcur;clear HS2)|(go_at_call 222;refine(HH2.out _ hcur).mono ?_;rintro en wa ⟨rfl,hba⟩;replace hcur:=hcur.trans (hba.mono hcur.size);obtain⟨x1,y3,y0,y1,y2⟩:=HFacts.out _ hcur;clear HH2))
   go_ret;exact⟨by rw[HRes.out];rfl,HB2.out.trans (hcur.mono HB2.out.size)⟩
  ·go_wp2_with (first|(go_at_call 257;refine(HS1.out _ hcur).mono ?_;rintro en wa ⟨rfl,hba⟩;replace hcur:=hcur.trans (hba.mono hcur.size);obtain⟨x1,y3,y0,y1,y2⟩:=HFacts.out _ hcur;clear HS1)|(go_at_call 222;refine(HH1.out _ hcur).mono ?_;rintro en wa ⟨rfl,hba⟩;replace hcur:=hcur.trans (hba.mono hcur.size);obtain⟨x1,y3,y0,y1,y2⟩:=HFacts.out _ hcur;clear HH1)|(go_at_call 257;refine(HS2.out _ hcur).mono ?_;rintro en wa ⟨rfl,hba⟩;replace hcur:=hcur.trans (hba.mono hcur.size);obtain⟨x1,y3,y0,y1,y2⟩:=HFacts.out _ hcur;clear HS2)|(go_at_call 222;refine(HH2.out _ hcur).mono ?_;rintro en wa ⟨rfl,hba⟩;replace hcur:=hcur.trans (hba.mono hcur.size);obtain⟨x1,y3,y0,y1,y2⟩:=HFacts.out _ hcur;clear HH2))
   go_ret;exact⟨by rw[HRes.out];rfl,HB2.out.trans (hcur.mono HB2.out.size)⟩
 ·skip
  cases k2
  ·skip
   cases k3
   ·go_wp2_with (first|(go_at_call 257;refine(HS1.out _ hcur).mono ?_;rintro en wa ⟨rfl,hba⟩;replace hcur:=hcur.trans (hba.mono hcur.size);obtain⟨x1,y3,y0,y1,y2⟩:=HFacts.out _ hcur;clear HS1)|(go_at_call 222;refine(HH1.out _ hcur).mono ?_;rintro en wa ⟨rfl,hba⟩;replace hcur:=hcur.trans (hba.mono hcur.size);obtain⟨x1,y3,y0,y1,y2⟩:=HFacts.out _ hcur;clear HH1)|(go_at_call 257;refine(HS2.out _ hcur).mono ?_;rintro en wa ⟨rfl,hba⟩;replace hcur:=hcur.trans (hba.mono hcur.size);obtain⟨x1,y3,y0,y1,y2⟩:=HFacts.out _ hcur;clear HS2)|(go_at_call 222;refine(HH2.out _ hcur).mono ?_;rintro en wa ⟨rfl,hba⟩;replace hcur:=hcur.trans (hba.mono hcur.size);obtain⟨x1,y3,y0,y1,y2⟩:=HFacts.out _ hcur;clear HH2))
    go_ret;exact⟨by rw[HRes.out];rfl,HB2.out.trans (hcur.mono HB2.out.size)⟩
   ·go_wp2_with (first|(go_at_call 257;refine(HS1.out _ hcur).mono ?_;rintro en wa ⟨rfl,hba⟩;replace hcur:=hcur.trans (hba.mono hcur.size);obtain⟨x1,y3,y0,y1,y2⟩:=HFacts.out _ hcur;clear HS1)|(go_at_call 222;refine(HH1.out _ hcur).mono ?_;rintro en wa ⟨rfl,hba⟩;replace hcur:=hcur.trans (hba.mono hcur.size);obtain⟨x1,y3,y0,y1,y2⟩:=HFacts.out _ hcur;clear HH1)|(go_at_call 257;refine(HS2.out _ hcur).mono ?_;rintro en wa ⟨rfl,hba⟩;replace hcur:=hcur.trans (hba.mono hcur.size);obtain⟨x1,y3,y0,y1,y2⟩:=HFacts.out _ hcur;clear HS2)|(go_at_call 222;refine(HH2.out _ hcur).mono ?_;rintro en wa ⟨rfl,hba⟩;replace hcur:=hcur.trans (hba.mono hcur.size);obtain⟨x1,y3,y0,y1,y2⟩:=HFacts.out _ hcur;clear HH2))
    go_ret;exact⟨by rw[HRes.out];rfl,HB2.out.trans (hcur.mono HB2.out.size)⟩
  ·go_wp2_with (first|(go_at_call 257;refine(HS1.out _ hcur).mono ?_;rintro en wa ⟨rfl,hba⟩;replace hcur:=hcur.trans (hba.mono hcur.size);obtain⟨x1,y3,y0,y1,y2⟩:=HFacts.out _ hcur;clear HS1)|(go_at_call 222;refine(HH1.out _ hcur).mono ?_;rintro en wa ⟨rfl,hba⟩;replace hcur:=hcur.trans (hba.mono hcur.size);obtain⟨x1,y3,y0,y1,y2⟩:=HFacts.out _ hcur;clear HH1)|(go_at_call 257;refine(HS2.out _ hcur).mono ?_;rintro en wa ⟨rfl,hba⟩;replace hcur:=hcur.trans (hba.mono hcur.size);obtain⟨x1,y3,y0,y1,y2⟩:=HFacts.out _ hcur;clear HS2)|(go_at_call 222;refine(HH2.out _ hcur).mono ?_;rintro en wa ⟨rfl,hba⟩;replace hcur:=hcur.trans (hba.mono hcur.size);obtain⟨x1,y3,y0,y1,y2⟩:=HFacts.out _ hcur;clear HH2))
   go_ret;exact⟨by rw[HRes.out];rfl,HB2.out.trans (hcur.mono HB2.out.size)⟩
structure Pv (n0:Nat)(I:World→Prop)(g:Nat)(lb:Array Value):Prop where
 ent:∀args W,(callFunc g args).run Tryz.prog W= .ok (.enter g args) W
 tells:∀V,I V→∀v:Vt,Ae v→Calls Tryz.prog g (#[v.val]++lb) V fun e w'=>∃b,e= .returned (.bool b)∧Below n0 V w'∧I w'
 stable:∀V W,I V→Below V.heap.size V W→I W
theorem OW(M:Int)(q nC n0:Nat)(A:Option Addr)(c:Nat)(C:List Vt)(g:Nat)(lb:Array Value)(I:World→Prop)(w:World)(hn:C.length=nC)(hr:Rd w n0 A (C.flatMap vtc))(hn0:n0≤w.heap.size)(hv:∀v∈C,Ae v)(hf:Pv n0 I g lb)(hI:I w)(hsm:nC≤1000000):Calls Tryz.prog 222 #[.agg #[.int .i64 M,.int .i64 (q:Int),.slice A nC c],.func (.func g) #[] lb] w fun e w'=>∃b,e= .returned (.bool b)∧Below n0 w w':=by
 have HN:=AA hn;have HR:=AA hr;have HV:=AA hv;have HF:=AA hf;have HI:Hid (I (w.alloc (.cells #[.int .i64 M,.int .i64 (q:Int),.slice A nC c] 269))):=hf.stable _ _ hI ((AC _ _).alloc (AB _) _);clear hn hr hv hf hI;have hbw0:Below n0 w (w.alloc (.cells #[.int .i64 M,.int .i64 (q:Int),.slice A nC c] 269)):=(AC _ _).alloc hn0 _;go_enter Tryz.func222,Tryz.ntmps222;go_wp2
 go_loopw [10] (fun iv wr=>∃i:Nat,iv= .int .i64 (i:Int)∧i≤nC∧n0≤wr.heap.size∧Hid (I wr)∧Below n0 w wr) (fun iv _=>nC-(intOf iv).toNat)
 case atStart=>exact⟨0,rfl,by omega,by simp;omega,HI,hbw0⟩
 case round=>
  obtain⟨i,rfl,hin,hsz,HIr,hbw⟩:=hrel;by_cases hi:i<nC
  ·have di:decide ((i:Int)<(nC:Int))=true:=by simp;omega
   have ik:(i:Int)<(nC:Int):=by omega
   have hil:i≤1000000:=by omega
   obtain⟨v,hvi⟩:∃v,C[i]? =some v:=⟨_,AE (by rw[HN.out];exact hi)⟩;obtain⟨b,o,rfl,hb,hcell⟩:=HR.out.cells (by intro e;have:=AX vtc 22 C (B6 C);rw[e,HN.out]at this;simp at this;omega);clear hcell;have x1:AK wr b (o+i*22) 22=some v.cells:=(HR.out.below hbw).voteRow hvi;have HP:=AA HF.out.tells;have eg:=HF.out.ent;have HVv:=AA (HV.out v (AM hvi));clear hvi;go_upto_region 4 with(refine AJ rfl 46 (.tmp 6) (.tmp 13) rfl wr.heap.size v.cells rfl rfl 46 Bk.cells (Blk.new wr _ _) (by rfl) (by kernel_rfl) (fun u hu=>BM v hu) ?_;intro w4 hB4 hg4 hsz4)
   have hbr4:Below wr.heap.size wr w4:=((AC _ _).alloc (AB _) _).grown hg4 (by simp) (fun k hk=>by injection hk with hk;subst hk;exact AB _);have HI4:Hid (I w4):=HF.out.stable _ _ HIr.out hbr4;have hbw4:Below n0 w w4:=hbw.trans (hbr4.mono hsz);have x4:=hB4.row 22 rfl;clear x1 hB4 hg4 hsz4;try go_frame
   go_wp2_with fail
   refine(HP.out _ HI4.out v HVv.out).mono ?_;rintro en w5 ⟨pv,rfl,hb5,hI5⟩;have HI5:=AA hI5;clear hI5;have hbw5:=hbw4.trans hb5;have hs5:n0≤w5.heap.size:=AF (AF hsz hbr4.size) hb5.size;cases pv with
   |true=>
    go_wp2;go_ret;exact⟨true,rfl,hbw5⟩
   |false=>
    go_wp2;go_roundw
    case rel=>exact⟨i+1,by go_num,by omega,hs5,HI5,hbw5⟩
    case measure=>simp[intOf];omega
  ·have di:decide ((i:Int)<(nC:Int))=false:=by simp;omega
   go_wp2;go_ret;exact⟨false,rfl,hbw⟩
def LX(n0:Nat)(W0:World)(V:World):Prop:=Below n0 W0 V∧∃f,Blk V n0 296 #[.pointer f]∧(f=none∨∃b u,f=some ⟨b,0,none⟩∧b≠n0∧Blk V b 46 (Vt.cells u))
theorem LX.stable{n0:Nat}{W0 V W:World}(hn:n0≤W0.heap.size)(h:LX n0 W0 V)(hb:Below V.heap.size V W):LX n0 W0 W:=by
 obtain⟨h1,f,h2,h3⟩:=h;refine⟨h1.trans (hb.mono (AF hn h1.size)),f,h2.below hb h2.lt,?_⟩;rcases h3 with h3|⟨b,u,h4,h5,h6⟩
 ·exact .inl h3
 ·exact .inr ⟨b,u,h4,h5,h6.below hb h6.lt⟩
theorem Pw(v:Vt)(b1 b2 n0:Nat)(W0:World)(h1:Jg n0 W0 b1 264 #[.pointer (some ⟨b2,0,none⟩)])(h2:GU n0 W0 b2 v)(hn:n0≤W0.heap.size):Pv n0 (LX n0 W0) 266 #[.pointer (some ⟨b1,0,none⟩),.pointer (some ⟨b2,0,none⟩),.pointer (some ⟨n0,0,none⟩)]:=by
 refine⟨enters_of Tryz.func266 (by kernel_rfl) rfl,fun V hV u hu=>?_,fun V W h hb=>h.stable hn hb⟩;have HV:=AA hV;obtain⟨hV0,f,hBf,hf⟩:=hV;have hltV:n0<V.heap.size:=hBf.lt;obtain⟨V1,hV1⟩:∃V1,V1=V.alloc (Obj.cells u.cells 46):=⟨_,rfl⟩;have hb1:Below V.heap.size V V1:=by rw[hV1];exact(AC _ _).alloc (AB _) _
 have hs1:V1.heap.size=V.heap.size+1:=by rw[hV1];simp
 have hBu:Blk V1 V.heap.size 46 u.cells:=by rw[hV1];exact Blk.new _ _ _
 have hF:By n0 W0 264 #[.pointer (some ⟨b2,0,none⟩)] (G9 v):=KV v b2 n0 W0 h2;have HP:Hid (∀W,Below V1.heap.size V1 W→Calls Tryz.prog 264 #[u.val,.pointer (some ⟨b2,0,none⟩)] W (Al W (G9 v u))):=fun W hW=>hF.tells W (hV0.trans ((hb1.trans (hW.mono hb1.size)).mono (Nat.le_of_lt hltV))) u hu
 have HA:Hid (∀W,Calls Tryz.prog 19 #[.int .i64 v.support,.int .i64 u.signer] W fun e w'=>e= .returned (.bool ((xOf v.support).testBit u.signer.toNat))∧w'=W):=fun W=>DO _ _ hu.2.1.1 hu.2.1.2 W
 have HFacts:Hid (∀W,Below V1.heap.size V1 W→Below n0 V W∧W.cell? ⟨b1,0,none⟩=some (.func (.func 264) #[] #[.pointer (some ⟨b2,0,none⟩)])∧W.cell? ⟨b2,5,none⟩=some (I v.support)∧AK W V.heap.size 0 22=some u.cells∧W.cell? ⟨V.heap.size,4,none⟩=some (I u.signer)∧Blk W V.heap.size 46 u.cells∧W.cell? ⟨n0,0,none⟩=some (.pointer f)∧W.frozen? ⟨n0,0,none⟩=false∧Blk W n0 296 #[.pointer f]∧W.heap.size≥V.heap.size+1∧LX n0 W0 W):=fun W hW=>by
  have hVW:Below V.heap.size V W:=hb1.trans (hW.mono hb1.size);have hVn:=hVW.mono (Nat.le_of_lt hltV);have hB:=hBu.below hW (by omega);have hBn:=hBf.below hVW hltV;exact⟨hVn,(h1.below (hV0.trans hVn)).cell 0,(h2.below (hV0.trans hVn)).cell 5,hB.row 22 rfl,hB.cell 4,hB,hBn.cell 0,hBn.frozen 0,hBn,by have:=hW.size;omega,HV.out.stable hn hVW⟩
 obtain⟨k1,hk1⟩:∃k,k=G9 v u:=⟨_,rfl⟩;obtain⟨k2,hk2⟩:∃k,k=(xOf v.support).testBit u.signer.toNat:=⟨_,rfl⟩;rw[←hk1]at HP;rw[←hk2]at HA;have HS:Hid (∀(x:Vt) W,Calls Tryz.prog 224 #[x.val,u.val] W (Al W (CQ x u))):=fun x W=>Dm x u W
 have HW:=AA hV1;have HFp:=AA hf;have HB0:Hid (f=none∨∃b x,f=some ⟨b,0,none⟩∧b≠n0∧∀W,Below V.heap.size V W→Blk W b 46 (Vt.cells x)):=by
  rcases hf with hf|⟨b,x,h4,h5,h6⟩
  ·exact .inl hf
  ·exact .inr ⟨b,x,h4,h5,fun W hW=>h6.below hW h6.lt⟩
 have HV01:=AA hb1;have HV0:=AA hV0;have hltn:=hltV;clear hk1 hk2 hF hBu hb1 hs1 hV1 hf hV0 hBf h1 h2 hu hltV;go_enter Tryz.func266,Tryz.ntmps266;go_upto_region 1 with fail
 simp only[←HW.out];have hcur:Below V1.heap.size V1 V1:=AC _ _;obtain⟨hn0,y1,y2,x1,y3,hBu,y4,y5,hB4,hs4,hI⟩:=HFacts.out _ hcur;have HBu:=AA hBu;have HB4:=AA hB4;have HI:=AA hI;clear hBu hB4 hI;cases k1
 ·go_wp2_with (go_at_call 264;refine(HP.out _ hcur).mono ?_;rintro en wa ⟨rfl,hba⟩;replace hcur:=hcur.trans (hba.mono hcur.size))
  go_ret;have h:=HFacts.out _ hcur;exact⟨false,rfl,h.1,h.2.2.2.2.2.2.2.2.2.2⟩
 ·go_wp2_with fail
  refine(HP.out _ hcur).mono ?_;rintro en wa ⟨rfl,hba⟩;replace hcur:=hcur.trans (hba.mono hcur.size);clear hn0 y1 y2 x1 y3 HBu y4 y5 HB4 hs4 HI hba;obtain⟨hn0,y1,y2,x1,y3,hBu,y4,y5,hB4,hs4,hI⟩:=HFacts.out _ hcur;have HBu:=AA hBu;have HB4:=AA hB4;have HI:=AA hI;clear hBu hB4 hI;cases k2
  ·go_wp2_with (go_at_call 19;refine(HA.out _).mono ?_;rintro en w2 ⟨rfl,hw2⟩;replace hw2:=hw2.symm;subst hw2)
   go_ret;exact⟨false,rfl,hn0,HI.out⟩
  ·rcases HB0.out with hf|⟨b,x,hf,hbn,hBx⟩
   ·subst hf;go_upto_region 5 with(go_at_call 19;refine(HA.out _).mono ?_;rintro en w2 ⟨rfl,hw2⟩;replace hw2:=hw2.symm;subst hw2)
    obtain⟨ws,hws⟩:∃ws,ws=wa.setCell ⟨n0,0,none⟩ (.pointer (some ⟨V.heap.size,0,none⟩)):=⟨_,rfl⟩;have hB5:Blk ws n0 296 #[.pointer (some ⟨V.heap.size,0,none⟩)]:=by rw[hws];exact HB4.out.put 0 _
    have hBu5:Blk ws V.heap.size 46 u.cells:=by rw[hws];exact HBu.out.far (by show V.heap.size≠n0;omega) _
    have hbs:Below n0 V ws:=by rw[hws];exact hn0.setCell (p:=⟨n0,0,none⟩) (AB _) _
    have hss:V.heap.size<ws.heap.size:=hBu5.lt;simp only[←hws];have HBs:=AA hbs;have HF5:Hid (∀W,Below ws.heap.size ws W→W.cell? ⟨n0,0,none⟩=some (.pointer (some ⟨V.heap.size,0,none⟩))∧AK W V.heap.size 0 22=some u.cells):=fun W hW=>⟨(hB5.below hW hB5.lt).cell 0,(hBu5.below hW hss).row 22 rfl⟩
    have HE:Hid (∀W,Below ws.heap.size ws W→LX n0 W0 W):=fun W hW=>⟨HV0.out.trans (hbs.trans (hW.mono (by omega))),_,hB5.below hW hB5.lt,.inr ⟨V.heap.size,u,rfl,by omega,hBu5.below hW hss⟩⟩
    have hr0:Below ws.heap.size ws ws:=AC _ _;clear hws hB5 hBu5 hbs y1 y2 x1 y3 HBu y4 y5 HB4 hs4 HI hn0 hcur;refine rgD (fun W=>W.cell? ⟨n0,0,none⟩=some (.pointer (some ⟨V.heap.size,0,none⟩))∧AK W V.heap.size 0 22=some u.cells) (HF5.out _ hr0.drew) fun hHeld=>?_
    refine tkD 20 0 ?_;go_frame;refine tkD 21 1 ?_;go_frame;refine tkD 22 2 ?_;go_frame;refine tkD 23 3 ?_;go_frame;refine rd1 4 fun K hK=>?_
    go_simp;refine(HS.out u _).mono ?_;rintro en w6 ⟨rfl,hb6⟩;have hbw6:=hr0.drew.trans (hb6.mono (AB _));go_wp2_with fail
    refine hK.out _ _ (HF5.out _ hbw6) (fun hHeld=>?_);clear hK K;try go_frame
    refine tkD 25 5 ?_;go_frame;refine tkD 5 6 ?_;go_frame;refine dnD ?_;go_wp2;go_ret;exact⟨_,rfl,HBs.out.trans (hbw6.mono (by omega)),HE.out _ hbw6⟩
   ·subst hf;go_upto_region 5 with(go_at_call 19;refine(HA.out _).mono ?_;rintro en w2 ⟨rfl,hw2⟩;replace hw2:=hw2.symm;subst hw2)
    have hVa:Below V.heap.size V wa:=HV01.out.trans (hcur.mono HV01.out.size);have HVa:=AA hVa;have HN0:=AA hn0;have HF5:Hid (∀W,Below wa.heap.size wa W→W.cell? ⟨n0,0,none⟩=some (.pointer (some ⟨b,0,none⟩))∧AK W b 0 22=some (Vt.cells x)∧AK W V.heap.size 0 22=some u.cells):=fun W hW=>⟨(HB4.out.below hW HB4.out.lt).cell 0,(hBx W (hVa.trans (hW.mono hVa.size))).row 22 rfl,(HBu.out.below hW HBu.out.lt).row 22 rfl⟩
    have HE:Hid (∀W,Below wa.heap.size wa W→LX n0 W0 W):=fun W hW=>HI.out.stable hn hW
    have hna:n0≤wa.heap.size:=AF (Nat.le_of_lt hltn) hVa.size;have hr0:Below wa.heap.size wa wa:=AC _ _;clear hBx y1 y2 x1 y3 HBu y4 y5 HB4 hs4 HI hn0 hcur hVa;refine rgD (fun W=>W.cell? ⟨n0,0,none⟩=some (.pointer (some ⟨b,0,none⟩))∧AK W b 0 22=some (Vt.cells x)∧AK W V.heap.size 0 22=some u.cells) (HF5.out _ hr0.drew) fun hHeld=>?_
    refine tkD 20 0 ?_;go_frame;refine tkD 21 1 ?_;go_frame;refine tkD 22 2 ?_;go_frame;refine tkD 23 3 ?_;go_frame;refine rd1 4 fun K hK=>?_
    go_simp;refine(HS.out x _).mono ?_;rintro en w6 ⟨rfl,hb6⟩;have hbw6:=hr0.drew.trans (hb6.mono (AB _));go_wp2_with fail
    refine hK.out _ _ (HF5.out _ hbw6) (fun hHeld=>?_);clear hK K;try go_frame
    refine tkD 25 5 ?_;go_frame;refine tkD 5 6 ?_;go_frame;refine dnD ?_;go_wp2;go_ret;exact⟨_,rfl,HN0.out.trans (hbw6.mono hna),HE.out _ hbw6⟩
end
end Go.Proofs.YtadllffeoibelaaGreat
