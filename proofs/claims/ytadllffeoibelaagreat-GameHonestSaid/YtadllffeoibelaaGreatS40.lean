/-
  What these parts of the proof come to, functions walked and plain laws: Key, SignW, Chc, Gm. No condition.
-/
import Derived.Test.YtadllffeoibelaaGreatS12
import Derived.Test.YtadllffeoibelaaGreatS9
import Derived.Test.YtadllffeoibelaaGreatS6
import Derived.Test.YtadllffeoibelaaGreatS39
import Derived.Great.Walk
import Derived.Test.YtadllffeoibelaaGreatS10
import Derived.Test.YtadllffeoibelaaGreatS22
namespace Go.Proofs.YtadllffeoibelaaGreat
set_option maxRecDepth 100000
set_option maxHeartbeats 32000000
set_option linter.all false
section
open Go.RowKit
attribute [local go_sem ↓] Go.wp_at_zero Go.wp_at_succ An Au Av Aw
attribute [local go_sem] BD BH BI BJ AN AW AQ
theorem Qe(s nm:Nm)(h m:Nat)(leaf:Int)(w:World)(hB:Blk w h 152 (CI s m))(hl:leaf<0∨1024≤leaf):Calls Tryz.prog 112 #[.pointer (some ⟨h,0,none⟩),.int .i64 leaf,nm.val] w (QM w):=by
 have HB:=AA hB;have hW:Blk (w.alloc (.cells nm.cells 24)) h 152 (CI s m):=hB.alloc _;have c8:(w.alloc (.cells nm.cells 24)).cell? ⟨h,8,none⟩=some (I 2):=hW.cell 8;have HR:=AA (Js s h m _ hW);clear hB hW;by_cases h0:leaf<0
 ·have d0:decide (leaf<0)=true:=by simp;omega
  go_enter Tryz.func112,Tryz.ntmps112;go_wp2_with (go_at_call 90;refine HR.out.mono ?_;rintro en w2 ⟨rfl,rfl⟩)
  go_ret2;exact⟨rfl,(AC _ _).alloc (AB _) _⟩
 ·have d0:decide (leaf<0)=false:=by simp;omega
  have d1:decide (1024≤leaf)=true:=by simp;omega
  go_enter Tryz.func112,Tryz.ntmps112;go_wp2_with ((first
   |(go_at_call 90;refine HR.out.mono ?_;rintro en w2 ⟨rfl,rfl⟩)
   |(go_at_call 78;refine(FL _).mono ?_;rintro en w3 ⟨rfl,rfl⟩)))
  go_ret2;exact⟨rfl,(AC _ _).alloc (AB _) _⟩
def UB(w:World)(e:Ending)(w':World):Prop:=e= .returned (.tuple #[.agg BK,.bool false])∧Below w.heap.size w w'
theorem Lv(s:Nm)(h m:Nat)(leaf:Int)(v:Vt)(w:World)(hv:v.ok)(hB:Blk w h 152 (CI s m))(hl:leaf<0∨1024≤leaf)(hy:Ae v):Calls Tryz.prog 77 #[.pointer (some ⟨h,0,none⟩),.int .i64 leaf,v.val] w (UB w):=by
 obtain⟨w1,hw1⟩:∃w1,w1=(w.alloc (.cells v.cells 46)).alloc (.cells BK 62):=⟨_,rfl⟩;have hbw:Below w.heap.size w w1:=by rw[hw1];exact((AC _ _).alloc (AB _) _).alloc (by simp) _
 have HBk:Hid (Blk w1 h 152 (CI s m)):=by unfold Hid;rw[hw1];exact(hB.alloc _).alloc _
 have HBv:Hid (Blk w1 w.heap.size 46 v.cells):=by unfold Hid;rw[hw1];exact(Blk.new w _ _).alloc _
 have HBr:Hid (Blk w1 (w.heap.size+1) 62 BK):=by
  unfold Hid;rw[hw1];have:=Blk.new (w.alloc (.cells v.cells 46)) 62 BK;simpa using this
 have HV:Hid (∀W,Calls Tryz.prog 49 #[v.val] W fun e w'=>e= .returned (.bool true)∧Below W.heap.size W w'):=fun W=>Hb v W hv hy
 have HNm:=AA (fun W=>KD v W hv hy);have HS:=AA (fun(nm:Nm) (W:World) (hW:Blk W h 152 (CI s m))=>Qe s nm h m leaf W hW hl);have hs1:w1.heap.size=w.heap.size+2:=by rw[hw1];simp
 have hx:AK w1 w.heap.size 0 22=some v.cells:=HBv.out.row 22 rfl;have hlt:h<w1.heap.size:=HBk.out.lt;clear hB hl hy hv;go_enter Tryz.func77,Tryz.ntmps77;go_upto_region 1 with fail
 rw[←hw1];clear hw1;go_wp2_with ((first
  |(go_at_call 49;refine(HV.out _).mono ?_;rintro en w2 ⟨rfl,hb2⟩;have hx2:AK w2 w.heap.size 0 22=some v.cells:=(HBv.out.below hb2 HBv.out.lt).row 22 rfl)
  |(go_at_call 113;refine(HNm.out _).mono ?_;rintro en w3 ⟨rfl,hb3⟩)
  |(go_at_call 112;refine(HS.out _ _ ((HBk.out.below hb2 HBk.out.lt).below hb3 (HBk.out.below hb2 HBk.out.lt).lt)).mono ?_;rintro en w4 ⟨rfl,hb4⟩;have hb24:=hb2.trans ((hb3.trans (hb4.mono hb3.size)).mono hb2.size);have HBr4:=AA (HBr.out.below hb24 HBr.out.lt))
  |(refine AJ rfl 62 (.tmp 6) (.tmp 24) rfl (w.heap.size+1) BK rfl rfl 62 BK HBr4.out rfl Cx (fun u hu=>NJ hu) ?_;intro w5 hR5 hg5 hsz5)))
 have hbw4:=hbw.trans (hb24.mono hbw.size);exact bodyPost_ret (Ab (g:=w.heap.size+1) (cs:=BK) rfl _ _ _ _ _ rfl hR5 Tryz.underlying62 rfl Cx) rfl ⟨rfl,hbw4.grown hg5 hbw4.size (by rintro j ⟨⟩;omega)⟩
theorem Rz{o:Oper}{a:Act}(v:Vt)(sig:List UInt8)(A:Option Addr)(c:Nat)(s t:Operand)(ho:o.op= .build 62 #[(0,s),(1,t)])(hs:a.eval s= .agg v.cells)(ht:a.eval t= .slice A sig.length c)(w:World):(execOp a.eval o).run Tryz.prog w= .ok (.value (Sg.mk v sig A c).val) w:=by
 unfold Sg.val;rw[NK];unfold execOp;rw[ho];simp only[List.map_toArray,List.map_cons,List.map_nil,hs,ht];go_simp
def SgG(base:Nat)(v:Vt)(sig:List UInt8)(cs:Array Value)(w:World):Prop:=∃A c,cs=(Sg.mk v sig A c).cells∧w.ownsRow base 5 1 (.slice A sig.length c) sig.length (sig.map B)
def TH(G:Array Value→World→Prop)(ok:Bool)(m:Nat)(w:World)(e:Ending)(w':World):Prop:=
 ∃cs,e= .returned (.tuple #[.agg cs,.bool ok])∧G cs w'∧w.grownBy w' (some m)
theorem Jk(s:Nm)(h m leaf base:Nat)(v:Vt)(w:World)(hv:v.ok)(hk:Bc s h m w)(hl:leaf<1024)(hy:Ae v)(hbase:base≤w.heap.size):Calls Tryz.prog 77 #[.pointer (some ⟨h,0,none⟩),.int .i64 (leaf:Int),v.val] w fun e w'=>TH (SgG base v (EI s leaf (DZ v))) true m w e w'∧Bc s h m w':=by
 obtain⟨w1,hw1⟩:∃w1,w1=(w.alloc (.cells v.cells 46)).alloc (.cells BK 62):=⟨_,rfl⟩;have hbw:Below w.heap.size w w1:=by rw[hw1];exact((AC _ _).alloc (AB _) _).alloc (by simp) _
 have HK1:=AA (hk.below hbw);have hml:=Ls hk;have HBv:Hid (Blk w1 w.heap.size 46 v.cells):=by unfold Hid;rw[hw1];exact(Blk.new w _ _).alloc _
 have HBr:Hid (Blk w1 (w.heap.size+1) 62 BK):=by
  unfold Hid;rw[hw1];have:=Blk.new (w.alloc (.cells v.cells 46)) 62 BK;simpa using this
 have HV:Hid (∀W,Calls Tryz.prog 49 #[v.val] W fun e w'=>e= .returned (.bool true)∧Below W.heap.size W w'):=fun W=>Hb v W hv hy
 have HNm:=AA (fun W=>KD v W hv hy);have HS:=AA (fun(nm:Nm) (W:World) (hW:Bc s h m W)=>On s nm h m leaf W hW hl);have hx:AK w1 w.heap.size 0 22=some v.cells:=HBv.out.row 22 rfl;obtain⟨q,hq⟩:∃q,q=w.heap.size:=⟨_,rfl⟩;obtain⟨r,hr⟩:∃r,r=w.heap.size+1:=⟨_,rfl⟩;rw[←hq]at HBv hx;rw[←hr]at HBr;have hqm:q≠m:=by omega
 have hrm:r≠m:=by omega
 have hqr:q≠r:=by omega
 have HW:Hid (w.heap.size≤r):=by unfold Hid;omega
 obtain⟨nm,hnm⟩:∃nm,nm=DZ v:=⟨_,rfl⟩;rw[←hnm]at HNm ⊢;have HS2:=AA (HS.out nm);obtain⟨sg,hsg⟩:∃sg,sg=EI s leaf nm:=⟨_,rfl⟩;have HSg:Hid (sg.length=370):=by unfold Hid;rw[hsg];exact Ip _ _ _
 have HPo:Hid (∀W e w',Kf s h m leaf nm W e w'→∃A c,e= .returned (.tuple #[.slice A 370 c,.bool true])∧w'.ownsRow W.heap.size 5 1 (.slice A 370 c) 370 (sg.map B)∧Bc s h m w'∧W.grownBy w' (some m)):=fun W e w' hp=>by rw[hsg];exact hp
 rw[←hsg];clear hk hy hv hnm hsg hl HS;go_enter Tryz.func77,Tryz.ntmps77;go_upto_region 1 with fail
 rw[←hw1,←hr,←hq];clear hw1 hq hr;go_upto_region 4 with(first
  |(go_at_call 49;refine(HV.out _).mono ?_;rintro en w2 ⟨rfl,hb2⟩;have hx2:AK w2 q 0 22=some v.cells:=(HBv.out.below hb2 HBv.out.lt).row 22 rfl)
  |(go_at_call 113;refine(HNm.out _).mono ?_;rintro en w3 ⟨rfl,hb3⟩;have hb13:=hb2.trans (hb3.mono hb2.size))
  |(go_at_call 112;refine(HS2.out _ (HK1.out.below hb13)).mono ?_;rintro en w4 h4;obtain⟨A4,c4,rfl,hown4,hk4,hg4⟩:=HPo.out _ _ _ h4;clear h4))
 have hgr:=(He (row:=some m) hbw).trans ((He hb13).trans hg4);have x4:AK w4 q 0 22=some v.cells:=((HBv.out.below hb13 HBv.out.lt).kept hg4 (by simpa using hqm)).row 22 rfl;have HR4:=AA ((HBr.out.below hb13 HBr.out.lt).kept hg4 (by simpa using hrm));have hb3s:base≤w3.heap.size:=AF hbase (AF hbw.size hb13.size);have HO4:=AA (BF hown4 hb3s);have HKA:=AA hk4;clear hown4 hk4 hg4 hx2 hb2 hb3 hb13 hx HBv HBr HK1 HV HNm HS2 HPo hb3s;try go_frame
 go_wp2_with (first
  |(refine Great.wpList_readTo rfl (some 27) rfl (Sg.mk v sg A4 c4).val (Rz v sg A4 c4 (.tmp 25) (.tmp 26) rfl rfl (by rw[HSg.out];rfl) _) ?_)
  |(refine AJ rfl 62 (.tmp 6) (.tmp 27) rfl r (Sg.mk v sg A4 c4).cells rfl rfl 62 BK HR4.out (by rw[Sg.size_cells];rfl) (by rw[Sg.size_cells];exact Cx) (fun u hu=>RA _ hu) ?_;intro w5 hR5 hg5 hsz5))
 refine bodyPost_ret (Ab (g:=r) (cs:=(Sg.mk v sg A4 c4).cells) rfl _ _ _ _ _ rfl hR5 Tryz.underlying62 rfl (by rw[Sg.size_cells];exact Cx)) rfl ⟨⟨_,rfl,⟨A4,c4,rfl,?_⟩,Om hgr hg5 HW.out⟩,HKA.out.far HR4.out (by decide) (by decide) hg5⟩;rw[HSg.out];exact HO4.out.kept hg5 (.inr fun e=>CC HO4.out HR4.out (by decide) e.symm)
theorem Kh(p:Option Addr)(leaf:Int)(v:Vt)(w:World)(hv:v.ok)(hy:¬Ae v):Calls Tryz.prog 77 #[.pointer p,.int .i64 leaf,v.val] w (UB w):=by
 obtain⟨w1,hw1⟩:∃w1,w1=(w.alloc (.cells v.cells 46)).alloc (.cells BK 62):=⟨_,rfl⟩;have hbw:Below w.heap.size w w1:=by rw[hw1];exact((AC _ _).alloc (AB _) _).alloc (by simp) _
 have hBv:Blk w1 w.heap.size 46 v.cells:=by rw[hw1];exact(Blk.new w _ _).alloc _
 have HBr:Hid (Blk w1 (w.heap.size+1) 62 BK):=by
  unfold Hid;rw[hw1];have:=Blk.new (w.alloc (.cells v.cells 46)) 62 BK;simpa using this
 have HV:Hid (∀W,Calls Tryz.prog 49 #[v.val] W fun e w'=>e= .returned (.bool false)∧Below W.heap.size W w'):=fun W=>QN v W hv hy
 have hx:AK w1 w.heap.size 0 22=some v.cells:=hBv.row 22 rfl;clear hy hv hBv;go_enter Tryz.func77,Tryz.ntmps77;go_upto_region 1 with fail
 rw[←hw1];clear hw1;go_wp2_with (first
  |(go_at_call 49;refine(HV.out _).mono ?_;rintro en w2 ⟨rfl,hb2⟩;have HBr4:=AA (HBr.out.below hb2 HBr.out.lt))
  |(refine AJ rfl 62 (.tmp 6) (.tmp 13) rfl (w.heap.size+1) BK rfl rfl 62 BK HBr4.out rfl Cx (fun u hu=>NJ hu) ?_;intro w5 hR5 hg5 hsz5))
 have hbw4:=hbw.trans (hb2.mono hbw.size);exact bodyPost_ret (Ab (g:=w.heap.size+1) (cs:=BK) rfl _ _ _ _ _ rfl hR5 Tryz.underlying62 rfl Cx) rfl ⟨rfl,hbw4.grown hg5 hbw4.size (by rintro j ⟨⟩;omega)⟩
theorem SgG.kept{base:Nat}{v:Vt}{sig:List UInt8}{cs:Array Value}{V V':World}{r t:Nat}{x:Array Value}(h:SgG base v sig cs V)(hB:Blk V r t x)(ht:5≠t)(hg:V.grownBy V' (some r)):SgG base v sig cs V':=by
 obtain⟨A,c,rfl,ho⟩:=h;exact⟨A,c,rfl,ho.kept hg (.inr fun e=>CC ho hB ht e.symm)⟩
theorem SgG.one{base:Nat}{v:Vt}{sig:List UInt8}{cs:Array Value}{V:World}(h:SgG base v sig cs V):cs.size=23∧∀u∈cs.toList,u.oneCell'=true:=by
 obtain⟨A,c,rfl,_⟩:=h;exact⟨Sg.size_cells _,fun u hu=>RA _ hu⟩
end
section
open Go.RowKit
attribute [local go_sem ↓] Go.wp_at_zero Go.wp_at_succ An Au Av Aw Gq
attribute [local go_sem] BD BH BI BJ Jn AN AW AQ
structure Ch where
 slot:Int
 value:Nm
 deriving DecidableEq
abbrev Ch.cells(o:Ch):Array Value:=#[I o.slot,B o.value.b0,B o.value.b1,B o.value.b2,B o.value.b3,B o.value.b4,B o.value.b5,B o.value.b6,B o.value.b7]
abbrev Ch.val(o:Ch):Value:=.agg o.cells
abbrev Ch.zero:Ch:=⟨0,Nm.zero⟩
abbrev chc(o:Ch):List Value:=o.cells.toList
theorem Ge(l:List Ch):∀o∈l,(chc o).length=9:=fun _ _=>rfl
theorem Qf{u:Value}(o:Ch)(h:u∈o.cells.toList):u.oneCell'=true:=by
 simp at h;rcases h with rfl|rfl|rfl|rfl|rfl|rfl|rfl|rfl|rfl <;> rfl
def Eo(o:Oc):Ch:=⟨o.slot,o.value⟩
theorem Nt:(Tryz.prog.info? 88).map (fun i=>(i.zero,i.size,i.bytes))=some (some (.agg Ch.zero.cells),9,16):=by kernel_rfl
theorem UU(a b:Ch)(w:World):(Op.equalIn 10000 88 a.val b.val).run Tryz.prog w= .ok (decide (a=b)) w:=by
 have u3:=Tryz.underlying3;have a3:=Tryz.isAgg3;have z3:=Tryz.sizeOf3;have a5:=Tryz.isAgg24;have z5:=Tryz.sizeOf24;have hS:Tryz.prog.underlying 88=some (.struct (Tryz.prog.fieldsOf 88)):=by kernel_rfl
 rw[show(10000:Nat)=9999+1 from rfl,run_equalIn_agg w 9999 88 _ _ hS (by kernel_rfl)];have e6:=fun w=>Dz a.value b.value w 9997
 simp only[Program.fieldsOf,Tryz.underlying88];go_simp;rw[EW];refine El w ?_;cases a;cases b;simp
def TI(w:World)(L:List Oc)(e:Ending)(w':World):Prop:=
 ∃v:Value,e= .returned v∧w'.ownsRow w.heap.size 88 9 v L.length ((L.map Eo).flatMap chc)∧Below w.heap.size w w'
def UC(L:List Oc)(w:World)(v iv:Value)(wr:World):Prop:=
 ∃i:Nat,iv= .int .i64 (i:Int)∧i≤L.length∧wr.ownsRow w.heap.size 88 9 v i (((L.take i).map Eo).flatMap chc)∧Below w.heap.size w wr
theorem R0(A:Option Addr)(n c:Nat)(L:List Oc)(w:World)(hn:L.length=n)(hr:Rd w w.heap.size A (L.flatMap occ))(hsm:n≤1000000):Calls Tryz.prog 45 #[.slice A n c] w (TI w L):=by
 have HN:=AA hn;have HR:=AA hr;clear hn hr;go_enter Tryz.func45,Tryz.ntmps45;go_wp2
 go_loopw [3,8] (fun v iv wr=>UC L w v iv wr) (fun _ iv _=>n-(intOf iv).toNat)
 case atStart=>exact⟨0,rfl,Nat.zero_le _,⟨by simp,.inl ⟨rfl,rfl⟩⟩,AC _ _⟩
 case round=>
  obtain⟨i,rfl,hin,hown,hbw⟩:=hrel;rw[HN.out]at hin;by_cases hi:i<n
  ·have di:decide ((i:Int)<(n:Int))=true:=by simp;omega
   obtain⟨T,hT⟩:∃T,T=((L.take i).map Eo).flatMap chc:=⟨_,rfl⟩;rw[←hT]at hown;have HT:=AA hT;have HOwn:=AA hown;clear hown hT;obtain⟨x,hx⟩:∃x,L[i]? =some x:=⟨_,AE (by rw[HN.out];exact hi)⟩;obtain⟨b,o,rfl,hb,hcell⟩:=HR.out.cells (by intro e;have:=AX occ 11 L (GG L);rw[e,HN.out]at this;simp at this;omega);clear hcell;have x1:AK wr b (o+i*11) 11=some x.cells:=(HR.out.below hbw).ocRow hx;have HX:=AA hx;clear hx;go_upto_region 5 with(refine AJ rfl 142 (.tmp 5) (.tmp 11) rfl wr.heap.size x.cells rfl rfl 142 Oc.zero.cells (Blk.new wr _ _) (by rfl) (by kernel_rfl) (fun u hu=>KL x hu) ?_;intro w4 hB4 hg4 hsz4)
   have HOwn4:Hid (w4.ownsRow w.heap.size 88 9 u3 i T):=BZ (HOwn.out.alloc _) hg4 (fun k hk=>by
    injection hk with hk
    subst hk;right;intro e;have:=(HOwn.out.lt _ e).2;omega)
   have hbw4:Below w.heap.size w w4:=(hbw.alloc hbw.size _).grown hg4 (AF hbw.size (by simp)) (fun k hk=>by injection hk with hk;subst hk;exact hbw.size);obtain⟨z,hz⟩:∃z,z=wr.heap.size:=⟨_,rfl⟩;rw[←hz]at hB4 ⊢;have x3:AK w4 z 3 8=some x.value.cells:=x.row_value hB4;have x4:w4.cell? ⟨z,0,none⟩=some (.int .i64 x.slot):=hB4.cell 0;clear hB4 hg4 hsz4 x1 hz HOwn hbw;try go_frame
   go_wp2_with ((first
    |(refine BP rfl 36 88 (.tmp 17) rfl (Eo x).cells rfl Tryz.underlying36 (by kernel_rfl) (by decide) (by decide) ?_)
    |(at_builtin;refine Aq rfl (.tmp 12) (.tmp 18) _ rfl w.heap.size 88 (.agg Ch.zero.cells) 9 16 Tryz.underlying36 Nt rfl (by decide) u3 i T rfl ?r0 (w4.heap.size+1) (some ⟨w4.heap.size,0,none⟩) 1 1 (chc (Eo x)) rfl ?r1 ?r2 ?r3 ?r4 ?r5 ?r6 ?_)))
   case r0=>exact HOwn4.out.alloc _
   case r1=>rfl
   case r2=>exact Rd.mk (by omega) (fun j u hu=>by rw[Nat.zero_add,(Blk.new w4 _ _).cell];simpa[Eo]using hu)
   case r3=>exact fun u hu=>Qf _ hu
   case r4=>omega
   case r5=>unfold maxLen;omega
   case r6=>have:=hbw4.size;simp;omega
   intro v7 w7 hown7 hg7 hat7;have hbw7:Below w.heap.size w w7:=BL (hbw4.alloc hbw4.size _) (HOwn4.out.alloc _) hg7;have HOwn7:=AA hown7;clear hown7 hg7 hat7 x3 x4 HOwn4;go_wp2;go_roundw
   case rel=>
    refine⟨i+1,by go_num,by rw[HN.out];omega,?_,hbw7⟩;have h:=HOwn7.out;rw[HT.out]at h;rw[Ag,HX.out,Ac,Ad];simpa using h
   case measure=>simp[intOf];omega
  ·obtain rfl:n=i:=by omega
   have di:decide ((n:Int)<(n:Int))=false:=by simp
   have HT:Hid (L.take n=L):=by unfold Hid;rw[←HN.out,List.take_length]
   rw[HT.out]at hown;have HOwn:=AA hown;clear hown;go_wp2;go_ret;exact⟨_,rfl,by rw[HN.out];exact HOwn.out,hbw⟩
end
section
open Go.RowKit
def Off(w:World)(k:Nat)(t:TypeId):Prop:=∀cs,¬Blk w k t cs
theorem Off.blk{w:World}{k t t':TypeId}{cs:Array Value}(h:Blk w k t' cs)(hne:t'≠t):Off w k t:=fun _ h'=>hne (Cd h h')
theorem Off.map{κ:Type}{enc:κ→Value}{w:World}{k t:Nat}{l:List (κ×Value)}(h:Cr enc w k l):Off w k t:=fun cs hB=>by
 obtain⟨es,c,h1,_⟩:=h;unfold Blk at hB;rw[hB]at h1;cases h1
theorem BO{w w':World}{base e size n k:Nat}{v:Value}{xs:List Value}(h:w.ownsRow base e size v n xs)(hg:w.grownBy w' (some k))(ho:Off w k e):w'.ownsRow base e size v n xs:=
 BZ h hg (fun j hj=>by
  injection hj with hj
  subst hj;right;intro he;rcases h.2 with⟨rfl,_⟩|⟨g,cap,cur,rfl,_,hh,_⟩
  ·simp[Value.ownBlock]at he
  ·have:g=k:=by simpa[Value.ownBlock]using he
   subst this;exact ho _ hh)
theorem Blk.off{w w':World}{g t k:Nat}{cs:Array Value}(h:Blk w g t cs)(hg:w.grownBy w' (some k))(ho:Off w k t):Blk w' g t cs:=h.kept hg (fun e=>by injection e with e;subst e;exact ho _ h)
theorem Bj.off{w w':World}{b k:Nat}{s:Sg}(h:Bj w b s)(hg:w.grownBy w' (some k))(ho:Off w k 5):Bj w' b s:=⟨h.1,BO h.2.1 hg ho,h.2.2⟩
theorem Bc.off{s:Nm}{h m k:Nat}{w w':World}(hk:Bc s h m w)(hg:w.grownBy w' (some k))(hm:m≠k)(h1:Off w k 24)(h2:Off w k 152):Bc s h m w':=by
 obtain⟨a1,a2,tl,a3,a4⟩:=hk;refine⟨a1.off hg h2,a2,tl,a3.kept hg (by simpa using hm),fun a b hab=>?_⟩;obtain⟨l,n,g,e1,e2,e3⟩:=a4 a b hab;refine⟨l,n,g,e1,e2,e3.kept hg (fun e=>?_)⟩;injection e with e
 subst e;obtain⟨cur,hC,_⟩:=e3;exact h1 _ hC
structure PrS where
 v:Value
 L:List Sg
 mem:Nat
 acts:Int
 leaf:Nat
 pay:Nm
 dv:Value
 dec:List Ch
 dd:Bool
abbrev PrS.cells(P:PrS):Array Value:=#[P.v,.int .i64 (P.mem:Int),.int .i64 P.acts,.int .i64 (P.leaf:Int),B P.pay.b0,B P.pay.b1,B P.pay.b2,B P.pay.b3,B P.pay.b4,B P.pay.b5,B P.pay.b6,B P.pay.b7,P.dv,.bool P.dd]
structure Cu (Bs:Nat)(w:World)(b:Nat)(P:PrS):Prop where
 blk:Blk w b 97 P.cells
 row:w.ownsRow Bs 62 23 P.v P.L.length (P.L.flatMap sgc)
 sgs:∀s∈P.L,Bj w Bs s
 dec:w.ownsRow Bs 88 9 P.dv P.dec.length (P.dec.flatMap chc)
theorem Cu.off{Bs:Nat}{w w':World}{b k:Nat}{P:PrS}(h:Cu Bs w b P)(hg:w.grownBy w' (some k))(hb:b≠k)(h1:Off w k 62)(h2:Off w k 5)(h3:Off w k 88):Cu Bs w' b P:=
 ⟨h.blk.kept hg (fun e=>by injection e with e;exact hb e),BO h.row hg h1,fun s hs=>(h.sgs s hs).off hg h2,BO h.dec hg h3⟩
theorem Cu.below{Bs:Nat}{w w':World}{b:Nat}{P:PrS}(h:Cu Bs w b P)(hb:Below w.heap.size w w'):Cu Bs w' b P:=
 ⟨h.blk.below hb h.blk.lt,BA h.row hb (AB _),fun s hs=>(h.sgs s hs).below hb (AB _),BA h.dec hb (AB _)⟩
theorem Cu.row_pay{Bs:Nat}{w:World}{b:Nat}{P:PrS}(h:Cu Bs w b P):AK w b 4 8=some P.pay.cells:=
 Blk.part h.blk 4 P.pay.cells (fun j u hu=>by
  have hj:j<8:=(Aa.1 hu).1;rcases(by omega:j=0∨j=1∨j=2∨j=3∨j=4∨j=5∨j=6∨j=7)with rfl|rfl|rfl|rfl|rfl|rfl|rfl|rfl <;> exact hu)
structure KyS where
 seed:Nm
 h:Nat
 m:Nat
structure GmS where
 M:Int
 hon:Int
 par:Nm
 kv:Value
 pv:Value
 sv:Value
 ks:List KyS
 ps:List (Nat×PrS)
 sg:List (Value×List Vt)
abbrev GmS.cells(G:GmS):Array Value:=#[.int .i64 G.M,.int .i64 G.hon,B G.par.b0,B G.par.b1,B G.par.b2,B G.par.b3,B G.par.b4,B G.par.b5,B G.par.b6,B G.par.b7,G.kv,G.pv,G.sv]
abbrev Am(b:Nat):Value:=.pointer (some ⟨b,0,none⟩)
structure A9 (Bs:Nat)(w:World)(g:Nat)(G:GmS):Prop where
 blk:Blk w g 93 G.cells
 krow:w.ownsRow Bs 112 1 G.kv G.ks.length (G.ks.map fun k=>Am k.h)
 prow:w.ownsRow Bs 98 1 G.pv G.ps.length (G.ps.map fun p=>Am p.1)
 srow:w.ownsRow Bs 56 1 G.sv G.sg.length (G.sg.map fun x=>x.1)
 keys:∀(i:Nat) (k:KyS),G.ks[i]? =some k→Bc k.seed k.h k.m w∧Bs≤k.m
 prs:∀(i:Nat) (p:Nat×PrS),G.ps[i]? =some p→Cu Bs w p.1 p.2∧Bs≤p.1
 sgs:∀(i:Nat) (x:Value×List Vt),G.sg[i]? =some x→w.ownsRow Bs 46 22 x.1 x.2.length (x.2.flatMap vtc)
 kn:∀(i j:Nat) (k k':KyS),G.ks[i]? =some k→G.ks[j]? =some k'→k.m=k'.m→i=j
 pn:∀(i j:Nat) (p p':Nat×PrS),G.ps[i]? =some p→G.ps[j]? =some p'→p.1=p'.1→i=j
 sn:∀(i j:Nat) (x y:Value×List Vt) (k:Nat),G.sg[i]? =some x→G.sg[j]? =some y→x.1.ownBlock=some k→y.1.ownBlock=some k→i=j
section
variable {Bs g:Nat}{w w':World}{G:GmS}
theorem A9.below(h:A9 Bs w g G)(hb:Below w.heap.size w w'):A9 Bs w' g G:=
 ⟨h.blk.below hb h.blk.lt,BA h.krow hb (AB _),BA h.prow hb (AB _),BA h.srow hb (AB _),fun i k hk=>⟨(h.keys i k hk).1.below hb,(h.keys i k hk).2⟩,fun i p hp=>⟨(h.prs i p hp).1.below hb,(h.prs i p hp).2⟩,fun i x hx=>BA (h.sgs i x hx) hb (AB _),h.kn,h.pn,h.sn⟩
theorem A9.row_par(h:A9 Bs w g G):AK w g 2 8=some G.par.cells:=
 Blk.part h.blk 2 G.par.cells (fun j u hu=>by
  have hj:j<8:=(Aa.1 hu).1;rcases(by omega:j=0∨j=1∨j=2∨j=3∨j=4∨j=5∨j=6∨j=7)with rfl|rfl|rfl|rfl|rfl|rfl|rfl|rfl <;> exact hu)
abbrev GmS.setP(G:GmS)(i b:Nat)(P:PrS):GmS:={G with ps:=G.ps.set i (b,P)}
theorem R3{α β:Type}{l:List (α×β)}{i:Nat}{a:α}{b b':β}(h:l[i]? =some (a,b))(f:α→Value):(l.set i (a,b')).map (fun p=>f p.1)=l.map fun p=>f p.1:=by
 apply List.ext_getElem?;intro j;rw[AU,AU,List.getElem?_set];by_cases hj:i=j
 ·subst hj;have hl:=(AG.1 h).1;rw[if_pos rfl,if_pos hl,h];rfl
 ·rw[if_neg hj]
theorem Bv{α:Type}{l:List α}{i j:Nat}{x y:α}(h:(l.set i x)[j]? =some y):(i=j∧y=x)∨(i≠j∧l[j]? =some y):=by
 rw[List.getElem?_set]at h;by_cases hj:i=j
 ·rw[if_pos hj]at h;split at h
  ·injection h with h
   exact .inl ⟨hj,h.symm⟩
  ·cases h
 ·rw[if_neg hj]at h;exact .inr ⟨hj,h⟩
theorem A9.setP{i b:Nat}{P P':PrS}(h:A9 Bs w g G)(hi:G.ps[i]? =some (b,P))(hg:w.grownBy w' (some b))(hP:Cu Bs w' b P'):A9 Bs w' g (G.setP i b P'):=by
 have hB:=(h.prs i _ hi).1.blk;have hm:∀(j:Nat) (k:KyS),G.ks[j]? =some k→k.m≠b:=fun j k hk e=>by
  obtain⟨_,_,tl,h3,_⟩:=(h.keys j k hk).1;exact(Off.map h3:Off w k.m 97) _ (e▸hB)
 refine⟨h.blk.off hg (.blk hB (by decide)),BO h.krow hg (.blk hB (by decide)),?_,BO h.srow hg (.blk hB (by decide)),fun j k hk=>⟨(h.keys j k hk).1.off hg (hm j k hk) (.blk hB (by decide)) (.blk hB (by decide)),(h.keys j k hk).2⟩,fun j p hp=>?_,fun j x hx=>BO (h.sgs j x hx) hg (.blk hB (by decide)),h.kn,fun j j' p p' hp hp' he=>?_,h.sn⟩
 ·have:=BO h.prow hg (.blk hB (by decide));show w'.ownsRow Bs _ 1 G.pv (G.ps.set i (b,P')).length ((G.ps.set i (b,P')).map fun p=>Am p.1);rwa[R3 hi,List.length_set]
 ·rcases Bv hp with⟨rfl,rfl⟩|⟨hj,hp⟩
  ·exact⟨hP,(h.prs i _ hi).2⟩
  ·have hne:p.1≠b:=fun e=>hj (h.pn i j _ _ hi hp e.symm)
   exact⟨(h.prs j p hp).1.off hg hne (.blk hB (by decide)) (.blk hB (by decide)) (.blk hB (by decide)),(h.prs j p hp).2⟩
 ·rcases Bv hp with⟨rfl,rfl⟩|⟨hj,hp⟩
  ·rcases Bv hp' with⟨h1,_⟩|⟨_,hp'⟩
   ·exact h1
   ·exact h.pn _ _ _ _ hi hp' he
  ·rcases Bv hp' with⟨rfl,rfl⟩|⟨_,hp'⟩
   ·exact h.pn _ _ _ _ hp hi he
   ·exact h.pn _ _ _ _ hp hp' he
theorem A9.turnM{i:Nat}{k:KyS}(h:A9 Bs w g G)(hi:G.ks[i]? =some k)(hg:w.grownBy w' (some k.m))(hk:Bc k.seed k.h k.m w'):A9 Bs w' g G:=by
 obtain⟨_,_,tl,hM,_⟩:=(h.keys i k hi).1;have ho:∀t,Off w k.m t:=fun t=>.map hM
 refine⟨h.blk.off hg (ho _),BO h.krow hg (ho _),BO h.prow hg (ho _),BO h.srow hg (ho _),fun j k' hk'=>?_,fun j p hp=>?_,fun j x hx=>BO (h.sgs j x hx) hg (ho _),h.kn,h.pn,h.sn⟩
 ·by_cases hj:i=j
  ·subst hj;rw[hi]at hk';injection hk' with hk'
   subst hk';exact⟨hk,(h.keys i k hi).2⟩
  ·exact⟨(h.keys j k' hk').1.off hg (fun e=>hj (h.kn i j _ _ hi hk' e.symm)) (ho _) (ho _),(h.keys j k' hk').2⟩
 ·exact⟨(h.prs j p hp).1.off hg (fun e=>ho _ _ (e▸(h.prs j p hp).1.blk)) (ho _) (ho _) (ho _),(h.prs j p hp).2⟩
theorem R4{base e sb n c m:Nat}{u:Value}{xs:List Value}(h:w.ownsRow base e 1 (.slice (some ⟨sb,0,none⟩) n c) n xs):(w.setCell ⟨sb,m,none⟩ u).ownsRow base e 1 (.slice (some ⟨sb,0,none⟩) n c) n (xs.set m u):=by
 refine⟨by rw[List.length_set];exact h.1,?_⟩;rcases h.2 with⟨h0,_⟩|⟨g',cap,cur,hv,h1,h2,h3,h4,h5,h6⟩
 ·cases h0
 ·simp only[Value.slice.injEq,Option.some.injEq,Addr.mk.injEq,and_true,true_and]at hv;obtain⟨rfl,rfl⟩:=hv;have hB:Blk w sb e cur:=h2;refine .inr ⟨sb,c,cur.setIfInBounds m u,rfl,h1,hB.put m u,h3,h4,by rw[Array.size_setIfInBounds];exact h5,?_⟩;rw[Array.toList_setIfInBounds,←h6,List.take_set]
abbrev GmS.setS(G:GmS)(m:Nat)(v:Value)(l:List Vt):GmS:={G with sg:=G.sg.set m (v,l)}
theorem Qg{l:List (Value×List Vt)}{m:Nat}{v:Value}{x:List Vt}:(l.set m (v,x)).map (fun x=>x.1)=(l.map fun x=>x.1).set m v:=by
 rw[List.map_set]
theorem A9.setS{m sb n c:Nat}{v0 v1:Value}{l0 l1:List Vt}{w1:World}(h:A9 Bs w g G)(hm:G.sg[m]? =some (v0,l0))(hsv:G.sv= .slice (some ⟨sb,0,none⟩) n c)(hg:w.grownBy w1 v0.ownBlock)(hown:w1.ownsRow Bs 46 22 v1 l1.length (l1.flatMap vtc))(hat:v1.ownBlock=v0.ownBlock∨∃z,v1.ownBlock=some z∧w.heap.size≤z):A9 Bs (w1.setCell ⟨sb,m,none⟩ v1) g (G.setS m v1 l1)∧w1.grownBy (w1.setCell ⟨sb,m,none⟩ v1) (some sb):=by
 have hg2:w1.grownBy (w1.setCell ⟨sb,m,none⟩ v1) (some sb):=Bi (p:=⟨sb,m,none⟩) (Ai w1 sb) rfl v1;have hlen:G.sg.length=n:=by
  have h2:=h.srow;rw[hsv]at h2;rcases h2.2 with⟨h0,_⟩|⟨g',cap,cur,hv,_⟩
  ·cases h0
  ·injection hv with _ hv _
   exact hv.symm
 --all else stands in w1
 have ho:∀(k:Nat) (t:TypeId),v0.ownBlock=some k→t≠46→Off w k t:=fun k t hk ht=>by
  rcases(h.sgs m _ hm).2 with⟨hv,_⟩|⟨g',cap,cur,hv,_,hh,_⟩
  ·rw[show v0=_ from hv]at hk;simp[Value.ownBlock]at hk
  ·rw[show v0=_ from hv]at hk;have:g'=k:=by simpa[Value.ownBlock]using hk
   subst this;exact .blk hh (fun e=>ht e.symm)
 have K1:∀{base e size n':Nat} {v:Value} {xs:List Value},e≠46→w.ownsRow base e size v n' xs→w1.ownsRow base e size v n' xs:=fun he hr=>by
  rcases hv:v0.ownBlock with _|k
  ·rw[hv]at hg;exact BZ hr hg (fun k hk=>by cases hk)
  ·rw[hv]at hg;exact BO hr hg (ho k _ hv he)
 have B1:∀{b t:Nat} {cs:Array Value},t≠46→Blk w b t cs→Blk w1 b t cs:=fun ht hB=>by
  rcases hv:v0.ownBlock with _|k
  ·rw[hv]at hg;exact hB.kept hg (by simp)
  ·rw[hv]at hg;exact hB.off hg (ho k _ hv ht)
 have Y1:∀(j:Nat) (k:KyS),G.ks[j]? =some k→Bc k.seed k.h k.m w1:=fun j k hk=>by
  have hK:=(h.keys j k hk).1;rcases hv:v0.ownBlock with _|z
  ·rw[hv]at hg;obtain⟨a1,a2,tl,a3,a4⟩:=hK;exact⟨a1.kept hg (by simp),a2,tl,a3.kept hg (by simp),fun a b hab=>by
    obtain⟨l,n,g,e1,e2,e3⟩:=a4 a b hab;exact⟨l,n,g,e1,e2,e3.kept hg (by simp)⟩⟩
  ·rw[hv]at hg;refine hK.off hg (fun e=>?_) (ho z _ hv (by decide)) (ho z _ hv (by decide));obtain⟨_,_,tl,a3,_⟩:=hK;rcases(h.sgs m _ hm).2 with⟨hv',_⟩|⟨g',cap,cur,hv',_,hh,_⟩
   ·rw[show v0=_ from hv']at hv;simp[Value.ownBlock]at hv
   ·rw[show v0=_ from hv']at hv;have:g'=z:=by simpa[Value.ownBlock]using hv
    subst this;exact(Off.map a3:Off w k.m 46) _ (e▸hh)
 have hs1:w1.ownsRow Bs 56 1 (.slice (some ⟨sb,0,none⟩) n c) n (G.sg.map fun x=>x.1):=by
  have:=K1 (by decide) h.srow;rwa[hsv,hlen]at this
 have hBs:∃cs,Blk w1 sb 56 cs:=by
  rcases hs1.2 with⟨h0,_⟩|⟨g',cap,cur,hv,_,hh,_⟩
  ·cases h0
  ·simp only[Value.slice.injEq,Option.some.injEq,Addr.mk.injEq,and_true,true_and]at hv;obtain⟨rfl,_⟩:=hv;exact⟨cur,hh⟩
 obtain⟨css,hBs⟩:=hBs;have o2:∀t,t≠56→Off w1 sb t:=fun t ht=>.blk hBs (fun e=>ht e.symm)
 refine⟨⟨(B1 (by decide) h.blk).off hg2 (o2 _ (by decide)),BO (K1 (by decide) h.krow) hg2 (o2 _ (by decide)),BO (K1 (by decide) h.prow) hg2 (o2 _ (by decide)),?_,fun j k hk=>⟨?_,(h.keys j k hk).2⟩,fun j p hp=>⟨?_,(h.prs j p hp).2⟩,fun j x hx=>?_,h.kn,h.pn,fun j j' x y k hx hy h1 h2=>?_⟩,hg2⟩
 ·show(w1.setCell ⟨sb,m,none⟩ v1).ownsRow Bs _ 1 G.sv (G.sg.set m (v1,l1)).length _;rw[hsv,Qg,List.length_set,hlen];exact R4 hs1
 ·have hK:=Y1 j k hk;refine hK.off hg2 (fun e=>?_) (o2 _ (by decide)) (o2 _ (by decide));obtain⟨_,_,tl,a3,_⟩:=hK;exact(Off.map a3:Off w1 k.m 56) _ (e▸hBs)
 ·have hP:=(h.prs j p hp).1;refine Cu.off (w:=w1) ⟨B1 (by decide) hP.blk,K1 (by decide) hP.row,fun s hs=>⟨(hP.sgs s hs).1,K1 (by decide) (hP.sgs s hs).2.1,(hP.sgs s hs).2.2⟩,K1 (by decide) hP.dec⟩ hg2 (fun e=>?_) (o2 _ (by decide)) (o2 _ (by decide)) (o2 _ (by decide));exact(o2 97 (by decide)) _ (e▸B1 (by decide) hP.blk)
 ·rcases Bv hx with⟨_,rfl⟩|⟨hj,hx⟩
  ·exact BO hown hg2 (o2 _ (by decide))
  ·refine BO (BZ (h.sgs j x hx) hg (fun k hk=>.inr (fun e=>hj (h.sn m j _ _ k hm hx hk e)))) hg2 (o2 _ (by decide))
 ·have hold:∀(i:Nat) (x:Value×List Vt) (z:Nat),G.sg[i]? =some x→x.1.ownBlock=some z→z<w.heap.size:=fun i x z hx hz=>((h.sgs i x hx).lt z hz).2
  rcases Bv hx with⟨rfl,rfl⟩|⟨hj,hx⟩
  ·rcases Bv hy with⟨h3,_⟩|⟨hj',hy⟩
   ·exact h3
   ·rcases hat with ha|⟨z,ha,hz⟩
    ·exact h.sn _ _ _ _ k hm hy (by rw[←ha];exact h1) h2
    ·have hk:z=k:=by rw[show v1.ownBlock=_ from ha]at h1;injection h1
     have:=hold j' y k hy h2;omega
  ·rcases Bv hy with⟨rfl,rfl⟩|⟨hj',hy⟩
   ·rcases hat with ha|⟨z,ha,hz⟩
    ·exact h.sn _ _ _ _ k hx hm h1 (by rw[←ha];exact h2)
    ·have hk:z=k:=by rw[show v1.ownBlock=_ from ha]at h2;injection h2
     have:=hold j x k hx h1;omega
   ·exact h.sn _ _ _ _ k hx hy h1 h2
end
end
end Go.Proofs.YtadllffeoibelaaGreat
