/-
  What these parts of the proof come to, functions walked and plain laws: Jus1. No condition.
-/
import Derived.Test.YtadllffeoibelaaGreatS12
import Derived.Test.YtadllffeoibelaaGreatS22
import Derived.Test.YtadllffeoibelaaGreatS6
import Derived.Deep.DeepCutAuto
namespace Go.Proofs.YtadllffeoibelaaGreat
set_option maxRecDepth 100000
set_option maxHeartbeats 32000000
set_option linter.all false
section
open Go.RowKit Go.Shelf
def CQ(a b:Vt):Bool:=decide (a.choice=b.choice)&&decide (a.value=b.value)
def D4(M:Int)(q:Nat)(v:Vt)(C:List Vt)(p:Vt→Bool):Bool:=
 decide (bits .andNot .i64 v.support M=0)&&(decide (At (xOf v.support) 10=q)&&(CH (xOf v.support) 10).all fun i=>C.any fun w=>decide (w.signer=(i:Int))&&p w)
def LW(v w:Vt):Bool:=decide (w.kind=1)&&CQ v w
def J0(v w:Vt):Bool:=decide (w.kind=2)&&CQ v w
def KU(v w:Vt):Bool:=decide (w.kind=4)&&(decide (w.round=v.round-1)&&CQ v w)
def Jf(v w:Vt):Bool:=decide (w.kind=4)&&(decide (w.round=v.round-1)&&decide (w.choice=2))
def NZ(v w:Vt):Bool:=KU v w||Jf v w
def pIn(v w:Vt):Bool:=(xOf v.support).testBit w.signer.toNat&&KU v w
def J1(v w:Vt):Bool:=decide (w.kind=3)&&(decide (w.round=v.round-1)&&CQ v w)
def G9(v w:Vt):Bool:=decide (w.kind=3)&&decide (w.round=v.round)
def Iz(v w:Vt):Bool:=G9 v w&&CQ v w
def Fq(M:Int)(q:Nat)(v:Vt)(C:List Vt):Bool:=
 if v.round=1 then decide (v.choice=0)||D4 M q v C (J0 v)else(D4 M q v C (NZ v)&&C.any (pIn v))||(D4 M q v C (Jf v)&&C.any (J1 v))
def Dc(M:Int)(q:Nat)(v:Vt)(C:List Vt):Bool:=
 if v.kind=1 then decide (v.signer=v.slot)else if v.kind=2 then C.any (LW v)else if v.kind=3 then Fq M q v C else D4 M q v C (Iz v)
def Cq(M:Int)(q:Nat)(v:Vt)(C:List Vt)(b:Bool):Prop:=
 if v.kind=4∧v.choice=2 then(b=true→(xOf M).testBit v.signer.toNat=true)else b=((xOf M).testBit v.signer.toNat&&Dc M q v C)
structure By (n0:Nat)(W0:World)(g:Nat)(lb:Array Value)(p:Vt→Bool):Prop where
 ent:∀args W,(callFunc g args).run Tryz.prog W= .ok (.enter g args) W
 tells:∀V,Below n0 W0 V→∀v:Vt,Ae v→Calls Tryz.prog g (#[v.val]++lb) V (Al V (p v))
theorem By.later{n0 n1:Nat}{W0 W1:World}{g:Nat}{lb:Array Value}{p:Vt→Bool}(h:By n0 W0 g lb p)(hb:Below n0 W0 W1)(hn:n0≤n1):By n1 W1 g lb p:=
 ⟨h.ent,fun V hV v hv=>h.tells V (hb.trans (hV.mono hn)) v hv⟩
def GU(n0:Nat)(W0:World)(b:Nat)(v:Vt):Prop:=b<n0∧Blk W0 b 46 v.cells
theorem GU.below{n0:Nat}{W0 V:World}{b:Nat}{v:Vt}(h:GU n0 W0 b v)(hV:Below n0 W0 V):Blk V b 46 v.cells:=h.2.below hV h.1
theorem Dm(a b:Vt)(w:World):Calls Tryz.prog 224 #[a.val,b.val] w (Al w (CQ a b)):=by
 obtain⟨k1,hk1⟩:∃k,k=decide (a.choice=b.choice):=⟨_,rfl⟩;obtain⟨k2,hk2⟩:∃k,k=decide (a.value=b.value):=⟨_,rfl⟩;have hr:CQ a b=(k1&&k2):=by rw[hk1,hk2];rfl
 have e1:(a.choice==b.choice)=k1:=by rw[hk1];rfl
 have e2:∀W,(Op.equalIn 10000 24 a.value.val b.value.val).run Tryz.prog W= .ok k2 W:=fun W=>by rw[hk2];exact Dz a.value b.value W 9998
 have Hr:=AA hr;clear hk1 hk2 hr;cases k1
 ·go_enter Tryz.func224,Tryz.ntmps224;go_wp2;go_ret;exact⟨by rw[Hr.out];rfl,((AC _ _).alloc (AB _) _).alloc (by simp) _⟩
 ·skip
  cases k2
  ·go_enter Tryz.func224,Tryz.ntmps224;go_wp2;go_ret;exact⟨by rw[Hr.out];rfl,((AC _ _).alloc (AB _) _).alloc (by simp) _⟩
  ·go_enter Tryz.func224,Tryz.ntmps224;go_wp2;go_ret;exact⟨by rw[Hr.out];rfl,((AC _ _).alloc (AB _) _).alloc (by simp) _⟩
attribute [local go_sem ↓] Go.wp_at_zero Go.wp_at_succ An Au Av Aw
attribute [local go_sem] BD BH BI BJ AN AW AQ
theorem Pq(v:Vt)(b n0:Nat)(W0:World)(hb:GU n0 W0 b v):By n0 W0 223 #[.pointer (some ⟨b,0,none⟩)] (LW v):=by
 refine⟨enters_of Tryz.func223 (by kernel_rfl) rfl,fun V hV u hu=>?_⟩;have hB:=hb.below hV;have hB1:=hB.alloc (Obj.cells u.cells 46);have x0:=hB1.row 22 rfl;have x1:=(Blk.new V 46 u.cells).row 22 rfl;have HS:Hid (∀W,Calls Tryz.prog 224 #[v.val,u.val] W (Al W (CQ v u))):=fun W=>Dm v u W
 obtain⟨k1,hk1⟩:∃k,k=decide (u.kind=1):=⟨_,rfl⟩;have hr:LW v u=(k1&&CQ v u):=by rw[hk1];rfl
 have e1:(u.kind==1)=k1:=by rw[hk1];rfl
 obtain⟨k2,hk2⟩:∃k,k=CQ v u:=⟨_,rfl⟩;rw[←hk2]at HS hr;have hbw:Below V.heap.size V (V.alloc (Obj.cells u.cells 46)):=(AC _ _).alloc (AB _) _;have Hr:=AA hr;clear hk1 hk2 hr hb hB hV hu hB1;cases k1
 ·go_enter Tryz.func223,Tryz.ntmps223;go_wp2;go_ret;exact⟨by rw[Hr.out];rfl,hbw⟩
 ·go_enter Tryz.func223,Tryz.ntmps223;go_wp2_with (go_at_call 224;refine(HS.out _).mono ?_;rintro en w2 ⟨rfl,hb2⟩)
  go_ret;exact⟨by rw[Hr.out];rfl,hbw.trans (hb2.mono hbw.size)⟩
theorem Pr(v:Vt)(b n0:Nat)(W0:World)(hb:GU n0 W0 b v):By n0 W0 258 #[.pointer (some ⟨b,0,none⟩)] (J0 v):=by
 refine⟨enters_of Tryz.func258 (by kernel_rfl) rfl,fun V hV u hu=>?_⟩;have hB:=hb.below hV;have hB1:=hB.alloc (Obj.cells u.cells 46);have x0:=hB1.row 22 rfl;have x1:=(Blk.new V 46 u.cells).row 22 rfl;have HS:Hid (∀W,Calls Tryz.prog 224 #[v.val,u.val] W (Al W (CQ v u))):=fun W=>Dm v u W
 obtain⟨k1,hk1⟩:∃k,k=decide (u.kind=2):=⟨_,rfl⟩;have hr:J0 v u=(k1&&CQ v u):=by rw[hk1];rfl
 have e1:(u.kind==2)=k1:=by rw[hk1];rfl
 obtain⟨k2,hk2⟩:∃k,k=CQ v u:=⟨_,rfl⟩;rw[←hk2]at HS hr;have hbw:Below V.heap.size V (V.alloc (Obj.cells u.cells 46)):=(AC _ _).alloc (AB _) _;have Hr:=AA hr;clear hk1 hk2 hr hb hB hV hu hB1;cases k1
 ·go_enter Tryz.func258,Tryz.ntmps258;go_wp2;go_ret;exact⟨by rw[Hr.out];rfl,hbw⟩
 ·go_enter Tryz.func258,Tryz.ntmps258;go_wp2_with (go_at_call 224;refine(HS.out _).mono ?_;rintro en w2 ⟨rfl,hb2⟩)
  go_ret;exact⟨by rw[Hr.out];rfl,hbw.trans (hb2.mono hbw.size)⟩
theorem RV(v:Vt)(hv:1≤v.round∧v.round≤12)(b n0:Nat)(W0:World)(hb:GU n0 W0 b v):By n0 W0 259 #[.pointer (some ⟨b,0,none⟩)] (KU v):=by
 refine⟨enters_of Tryz.func259 (by kernel_rfl) rfl,fun V hV u hu=>?_⟩;have hB:=hb.below hV;have hB1:=hB.alloc (Obj.cells u.cells 46);have x0:=hB1.row 22 rfl;have x1:=(Blk.new V 46 u.cells).row 22 rfl;have c2:(V.alloc (Obj.cells u.cells 46)).cell? ⟨b,2,none⟩=some (I v.round):=hB1.cell 2;have HS:Hid (∀W,Calls Tryz.prog 224 #[v.val,u.val] W (Al W (CQ v u))):=fun W=>Dm v u W
 obtain⟨k1,hk1⟩:∃k,k=decide (u.kind=4):=⟨_,rfl⟩;obtain⟨k2,hk2⟩:∃k,k=decide (u.round=v.round-1):=⟨_,rfl⟩;obtain⟨k3,hk3⟩:∃k,k=CQ v u:=⟨_,rfl⟩;have hr:KU v u=(k1&&(k2&&k3)):=by rw[hk1,hk2,hk3];rfl
 have e1:(u.kind==4)=k1:=by rw[hk1];rfl
 have e2:(u.round==v.round-1)=k2:=by rw[hk2];rfl
 obtain⟨v1,v2⟩:=hv;rw[←hk3]at HS;have hbw:Below V.heap.size V (V.alloc (Obj.cells u.cells 46)):=(AC _ _).alloc (AB _) _;have Hr:=AA hr;clear hk1 hk2 hk3 hr hb hB hV hu hB1;cases k1
 ·go_enter Tryz.func259,Tryz.ntmps259;go_wp2;go_ret;exact⟨by rw[Hr.out];rfl,hbw⟩
 ·skip
  cases k2
  ·go_enter Tryz.func259,Tryz.ntmps259;go_wp2;go_ret;exact⟨by rw[Hr.out];rfl,hbw⟩
  ·go_enter Tryz.func259,Tryz.ntmps259;go_wp2_with (go_at_call 224;refine(HS.out _).mono ?_;rintro en w2 ⟨rfl,hb2⟩)
   go_ret;exact⟨by rw[Hr.out];rfl,hbw.trans (hb2.mono hbw.size)⟩
theorem RW(v:Vt)(hv:1≤v.round∧v.round≤12)(b n0:Nat)(W0:World)(hb:GU n0 W0 b v):By n0 W0 260 #[.pointer (some ⟨b,0,none⟩)] (Jf v):=by
 refine⟨enters_of Tryz.func260 (by kernel_rfl) rfl,fun V hV u hu=>?_⟩;have hB:=hb.below hV;have hB1:=hB.alloc (Obj.cells u.cells 46);have x0:=hB1.row 22 rfl;have x1:=(Blk.new V 46 u.cells).row 22 rfl;have c2:(V.alloc (Obj.cells u.cells 46)).cell? ⟨b,2,none⟩=some (I v.round):=hB1.cell 2;obtain⟨k1,hk1⟩:∃k,k=decide (u.kind=4):=⟨_,rfl⟩;obtain⟨k2,hk2⟩:∃k,k=decide (u.round=v.round-1):=⟨_,rfl⟩;obtain⟨k3,hk3⟩:∃k,k=decide (u.choice=2):=⟨_,rfl⟩;have hr:Jf v u=(k1&&(k2&&k3)):=by rw[hk1,hk2,hk3];rfl
 have e1:(u.kind==4)=k1:=by rw[hk1];rfl
 have e2:(u.round==v.round-1)=k2:=by rw[hk2];rfl
 obtain⟨v1,v2⟩:=hv;have e3:(u.choice==2)=k3:=by rw[hk3];rfl
 have hbw:Below V.heap.size V (V.alloc (Obj.cells u.cells 46)):=(AC _ _).alloc (AB _) _;have Hr:=AA hr;clear hk1 hk2 hk3 hr hb hB hV hu hB1;cases k1
 ·go_enter Tryz.func260,Tryz.ntmps260;go_wp2;go_ret;exact⟨by rw[Hr.out];rfl,hbw⟩
 ·skip
  cases k2
  ·go_enter Tryz.func260,Tryz.ntmps260;go_wp2;go_ret;exact⟨by rw[Hr.out];rfl,hbw⟩
  ·go_enter Tryz.func260,Tryz.ntmps260;go_wp2;go_ret;exact⟨by rw[Hr.out];rfl,hbw⟩
theorem Ps(v:Vt)(hv:1≤v.round∧v.round≤12)(b n0:Nat)(W0:World)(hb:GU n0 W0 b v):By n0 W0 263 #[.pointer (some ⟨b,0,none⟩)] (J1 v):=by
 refine⟨enters_of Tryz.func263 (by kernel_rfl) rfl,fun V hV u hu=>?_⟩;have hB:=hb.below hV;have hB1:=hB.alloc (Obj.cells u.cells 46);have x0:=hB1.row 22 rfl;have x1:=(Blk.new V 46 u.cells).row 22 rfl;have c2:(V.alloc (Obj.cells u.cells 46)).cell? ⟨b,2,none⟩=some (I v.round):=hB1.cell 2;have HS:Hid (∀W,Calls Tryz.prog 224 #[v.val,u.val] W (Al W (CQ v u))):=fun W=>Dm v u W
 obtain⟨k1,hk1⟩:∃k,k=decide (u.kind=3):=⟨_,rfl⟩;obtain⟨k2,hk2⟩:∃k,k=decide (u.round=v.round-1):=⟨_,rfl⟩;obtain⟨k3,hk3⟩:∃k,k=CQ v u:=⟨_,rfl⟩;have hr:J1 v u=(k1&&(k2&&k3)):=by rw[hk1,hk2,hk3];rfl
 have e1:(u.kind==3)=k1:=by rw[hk1];rfl
 have e2:(u.round==v.round-1)=k2:=by rw[hk2];rfl
 obtain⟨v1,v2⟩:=hv;rw[←hk3]at HS;have hbw:Below V.heap.size V (V.alloc (Obj.cells u.cells 46)):=(AC _ _).alloc (AB _) _;have Hr:=AA hr;clear hk1 hk2 hk3 hr hb hB hV hu hB1;cases k1
 ·go_enter Tryz.func263,Tryz.ntmps263;go_wp2;go_ret;exact⟨by rw[Hr.out];rfl,hbw⟩
 ·skip
  cases k2
  ·go_enter Tryz.func263,Tryz.ntmps263;go_wp2;go_ret;exact⟨by rw[Hr.out];rfl,hbw⟩
  ·go_enter Tryz.func263,Tryz.ntmps263;go_wp2_with (go_at_call 224;refine(HS.out _).mono ?_;rintro en w2 ⟨rfl,hb2⟩)
   go_ret;exact⟨by rw[Hr.out];rfl,hbw.trans (hb2.mono hbw.size)⟩
theorem KV(v:Vt)(b n0:Nat)(W0:World)(hb:GU n0 W0 b v):By n0 W0 264 #[.pointer (some ⟨b,0,none⟩)] (G9 v):=by
 refine⟨enters_of Tryz.func264 (by kernel_rfl) rfl,fun V hV u hu=>?_⟩;have hB:=hb.below hV;have hB1:=hB.alloc (Obj.cells u.cells 46);have c2:(V.alloc (Obj.cells u.cells 46)).cell? ⟨b,2,none⟩=some (I v.round):=hB1.cell 2;obtain⟨k1,hk1⟩:∃k,k=decide (u.kind=3):=⟨_,rfl⟩;obtain⟨k2,hk2⟩:∃k,k=decide (u.round=v.round):=⟨_,rfl⟩;have hr:G9 v u=(k1&&k2):=by rw[hk1,hk2];rfl
 have e1:(u.kind==3)=k1:=by rw[hk1];rfl
 have e2:(u.round==v.round)=k2:=by rw[hk2];rfl
 have hbw:Below V.heap.size V (V.alloc (Obj.cells u.cells 46)):=(AC _ _).alloc (AB _) _;have Hr:=AA hr;clear hk1 hk2 hr hb hB hV hu hB1;cases k1
 ·go_enter Tryz.func264,Tryz.ntmps264;go_wp2;go_ret;exact⟨by rw[Hr.out];rfl,hbw⟩
 ·go_enter Tryz.func264,Tryz.ntmps264;go_wp2;go_ret;exact⟨by rw[Hr.out];rfl,hbw⟩
theorem GV(M:Int)(q nC:Nat)(A:Option Addr)(c:Nat)(C:List Vt)(g:Nat)(lb:Array Value)(p:Vt→Bool)(w:World)(hn:C.length=nC)(hr:Rd w w.heap.size A (C.flatMap vtc))(hv:∀v∈C,Ae v)(hf:By w.heap.size w g lb p)(hsm:nC≤1000000):Calls Tryz.prog 222 #[.agg #[.int .i64 M,.int .i64 (q:Int),.slice A nC c],.func (.func g) #[] lb] w (Al w (C.any p)):=by
 have HN:=AA hn;have HR:=AA hr;have HV:=AA hv;have HF:=AA hf;clear hn hr hv hf;have hbw0:Below w.heap.size w (w.alloc (.cells #[.int .i64 M,.int .i64 (q:Int),.slice A nC c] 269)):=(AC _ _).alloc (AB _) _;go_enter Tryz.func222,Tryz.ntmps222;go_wp2
 go_loopw [10] (fun iv wr=>∃i:Nat,iv= .int .i64 (i:Int)∧i≤nC∧(C.take i).any p=false∧Below w.heap.size w wr) (fun iv _=>nC-(intOf iv).toNat)
 case atStart=>exact⟨0,rfl,by omega,by simp,hbw0⟩
 case round=>
  obtain⟨i,rfl,hin,hno,hbw⟩:=hrel;have HNo:=AA hno;clear hno;by_cases hi:i<nC
  ·have di:decide ((i:Int)<(nC:Int))=true:=by simp;omega
   have ik:(i:Int)<(nC:Int):=by omega
   have hil:i≤1000000:=by omega
   obtain⟨v,hvi⟩:∃v,C[i]? =some v:=⟨_,AE (by rw[HN.out];exact hi)⟩;obtain⟨b,o,rfl,hb,hcell⟩:=HR.out.cells (by intro e;have:=AX vtc 22 C (B6 C);rw[e,HN.out]at this;simp at this;omega);clear hcell;have x1:AK wr b (o+i*22) 22=some v.cells:=(HR.out.below hbw).voteRow hvi;have HP:=AA HF.out.tells;have eg:=HF.out.ent;have hvv:=HV.out v (AM hvi);have HStep:Hid ((C.take (i+1)).any p=((C.take i).any p||p v)):=by
    unfold Hid;rw[Ag,hvi,List.any_append];simp
   have HAny:Hid (p v=true→C.any p=true):=fun h=>List.any_eq_true.2 ⟨v,AM hvi,h⟩
   clear hvi;have HVv:=AA hvv;clear hvv;obtain⟨pv,hpv⟩:∃k,k=p v:=⟨_,rfl⟩;have HPv:=AA hpv;clear hpv;go_upto_region 4 with(refine AJ rfl 46 (.tmp 6) (.tmp 13) rfl wr.heap.size v.cells rfl rfl 46 Bk.cells (Blk.new wr _ _) (by rfl) (by kernel_rfl) (fun u hu=>BM v hu) ?_;intro w4 hB4 hg4 hsz4)
   have hbw4:Below w.heap.size w w4:=(hbw.alloc hbw.size _).grown hg4 (AF hbw.size (by simp)) (fun k hk=>by injection hk with hk;subst hk;exact hbw.size);have x4:=hB4.row 22 rfl;clear x1 hB4 hg4 hsz4;try go_frame
   go_wp2_with fail
   refine(HP.out _ hbw4 v HVv.out).mono ?_;rw[←HPv.out];rintro en w5 ⟨rfl,hb5⟩;have hbw5:=hbw4.trans (hb5.mono hbw4.size);cases pv with
   |true=>
    go_wp2;go_ret;exact⟨by rw[HAny.out HPv.out.symm];rfl,hbw5⟩
   |false=>
    go_wp2;go_roundw
    case rel=>exact⟨i+1,by go_num,by omega,by rw[HStep.out,HNo.out,←HPv.out];rfl,hbw5⟩
    case measure=>simp[intOf];omega
  ·have di:decide ((i:Int)<(nC:Int))=false:=by simp;omega
   have hin':i=nC:=by omega
   go_wp2;go_ret;refine⟨?_,hbw⟩;have:=HNo.out;rw[hin',←HN.out,List.take_length]at this;rw[this];rfl
end
end Go.Proofs.YtadllffeoibelaaGreat
