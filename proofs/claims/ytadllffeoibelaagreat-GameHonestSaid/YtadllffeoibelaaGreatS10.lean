/-
  What these parts of the proof come to, functions walked and plain laws: Oc, Vl, Bits, Cnt, Size, CanP, CanM. No condition.
-/
import Derived.Test.YtadllffeoibelaaGreatS2
import Derived.Test.YtadllffeoibelaaGreatS7
import Derived.Test.YtadllffeoibelaaGreatS9
import Derived.Great.Walk
import Derived.Test.YtadllffeoibelaaGreatS1
import Derived.Test.YtadllffeoibelaaGreatS5
import Derived.Deep.DeepCutAuto
namespace Go.Proofs.YtadllffeoibelaaGreat
set_option maxRecDepth 100000
set_option maxHeartbeats 32000000
set_option linter.all false
section
open Go.RowKit
structure Oc where
 slot:Int
 round:Int
 choice:Int
 value:Nm
 deriving DecidableEq
abbrev Oc.cells(o:Oc):Array Value:=#[I o.slot,I o.round,I o.choice,B o.value.b0,B o.value.b1,B o.value.b2,B o.value.b3,B o.value.b4,B o.value.b5,B o.value.b6,B o.value.b7]
abbrev Oc.val(o:Oc):Value:=.agg o.cells
abbrev Oc.zero:Oc:=⟨0,0,0,Nm.zero⟩
abbrev occ(o:Oc):List Value:=o.cells.toList
theorem GG(l:List Oc):∀o∈l,(occ o).length=11:=fun _ _=>rfl
theorem KL{u:Value}(o:Oc)(h:u∈o.cells.toList):u.oneCell'=true:=by
 simp at h;rcases h with rfl|rfl|rfl|rfl|rfl|rfl|rfl|rfl|rfl|rfl|rfl <;> rfl
instance:Inhabited Oc:=⟨Oc.zero⟩
theorem NQ:(Tryz.prog.info? 142).map (fun i=>(i.zero,i.size,i.bytes))=some (some (.agg Oc.zero.cells),11,32):=by kernel_rfl
theorem Gq(p:Value):Instr.loadAt 142 p=CN 142 p:=rfl
theorem Jn(b o:Nat)(w:World):(CN 142 (.pointer (some ⟨b,o,none⟩))).run Tryz.prog w=Cw 142 b o w (AK w b o 11):=CW _ 11 b o w _ Tryz.underlying142 rfl (by kernel_rfl)
theorem Rd.ocRow{w:World}{B' b o:Nat}{l:List Oc}{k:Nat}{v:Oc}(h:Rd w B' (some ⟨b,o,none⟩) (l.flatMap occ))(hk:l[k]? =some v):AK w b (o+k*11) 11=some v.cells:=by
 have hpos:=(AG.1 hk).1;rcases h with h|⟨b',o',e,hb,hc⟩
 ·have:=AX occ 11 l (GG l);rw[h]at this;simp at this;omega
 ·injection e with e
  injection e with e1 e2
  subst e1;subst e2;refine Bo (fun j u hu=>?_) rfl;have hj:j<11:=by
   have:=(AG.1 hu).1;simpa using this
  rw[Nat.add_assoc];refine hc _ u ?_;rw[CG occ 11 l (GG l) k j v hk hj,←hu]
theorem Oc.row_value{w:World}{g t:Nat}(v:Oc)(h:Blk w g t v.cells):AK w g 3 8=some v.value.cells:=
 Blk.part h 3 v.value.cells (fun j u hu=>by
  have hj:j<8:=(Aa.1 hu).1;rcases(by omega:j=0∨j=1∨j=2∨j=3∨j=4∨j=5∨j=6∨j=7)with rfl|rfl|rfl|rfl|rfl|rfl|rfl|rfl <;> exact hu)
theorem UL(a b:Oc)(w:World):(Op.equal 142 a.val b.val).run Tryz.prog w= .ok (decide (a=b)) w:=by
 show(Op.equalIn 10000 142 a.val b.val).run Tryz.prog w=_;have u3:=Tryz.underlying3;have a3:=Tryz.isAgg3;have z3:=Tryz.sizeOf3;have a5:=Tryz.isAgg24;have z5:=Tryz.sizeOf24;have hS:Tryz.prog.underlying 142=some (.struct (Tryz.prog.fieldsOf 142)):=by kernel_rfl
 rw[show(10000:Nat)=9999+1 from rfl,run_equalIn_agg w 9999 142 _ _ hS (by kernel_rfl)];have e6:=fun w=>Dz a.value b.value w 9997
 simp only[Program.fieldsOf,Tryz.underlying142];go_simp;rw[EW]
 iterate 2 rw[El w rfl]
 refine El w ?_;cases a;cases b;simp
theorem IY(b:Bool)(d:Nat)(k:Nm)(w:World):(Instr.checkKey b (d+2) 24 k.val).run Tryz.prog w= .ok () w:=by
 have a3:=Tryz.isAgg5;have z3:=Tryz.sizeOf5;have hi:=fun n w=>Mb b d n w
 rw[Instr.checkKey];simp only[Sem.run_bind,run_underlying Tryz.underlying24,Result.andThen_ok];simp only[Std.Legacy.Range.forIn_eq_forIn_range',Std.Legacy.Range.size,Nat.sub_zero,Nat.add_sub_cancel,Nat.div_one,List.range'_succ,List.range'_zero,List.forIn_cons,List.forIn_nil];go_simp
theorem RD(b:Bool)(k:Oc)(w:World):(Instr.checkKey b 10000 142 k.val).run Tryz.prog w= .ok () w:=by
 have a3:=Tryz.isAgg3;have z3:=Tryz.sizeOf3;have hi:=fun n w=>G0 b 9998 n w
 have a5:=Tryz.isAgg24;have z5:=Tryz.sizeOf24;have e6:=fun w=>IY b 9997 k.value w
 rw[Instr.checkKey];simp only[Sem.run_bind,run_underlying Tryz.underlying142,Result.andThen_ok];go_simp
theorem SS:Es Tryz.prog 142 Oc.val where
 desc:=⟨_,Tryz.underlying142,fun _ _=>rfl⟩
 check:=RD
 eq:=UL
 bits k:=GT 9999 _ (by intro v hv;simp at hv;rcases hv with rfl|rfl|rfl|rfl|rfl|rfl|rfl|rfl|rfl|rfl|rfl <;> simp[Instr.sameBits])
attribute [local go_sem ↓] Go.wp_at_zero Go.wp_at_succ An Au Av Aw Gq
attribute [local go_sem] BD BH BI BJ Jn AN AW AQ
def K4(a b:Oc):Bool:=if a.round≠b.round then decide (a.round<b.round)else if a.choice≠b.choice then decide (a.choice<b.choice)else DJ a.value b.value
theorem MM(a b:Oc)(w:World):Calls Tryz.prog 118 #[a.val,b.val] w (Al w (K4 a b)):=by
 have hA:Blk ((w.alloc (Obj.cells a.cells 142)).alloc (Obj.cells b.cells 142)) w.heap.size 142 a.cells:=(Blk.new w _ _).alloc _;have hB:Blk ((w.alloc (Obj.cells a.cells 142)).alloc (Obj.cells b.cells 142)) (w.heap.size+1) 142 b.cells:=by
  have:=Blk.new (w.alloc (Obj.cells a.cells 142)) 142 b.cells;simpa using this
 obtain⟨W,hW⟩:∃W,W=(w.alloc (Obj.cells a.cells 142)).alloc (Obj.cells b.cells 142):=⟨_,rfl⟩;have hbW:Below w.heap.size w W:=by rw[hW];exact((AC _ _).alloc (AB _) _).alloc (by simp) _
 rw[←hW]at hA hB;have x0:=a.row_value hA;have y0:=b.row_value hB;have x1:W.cell? ⟨w.heap.size,1,none⟩=some (I a.round):=hA.cell 1;have x2:W.cell? ⟨w.heap.size,2,none⟩=some (I a.choice):=hA.cell 2;have y1:W.cell? ⟨w.heap.size+1,1,none⟩=some (I b.round):=hB.cell 1;have y2:W.cell? ⟨w.heap.size+1,2,none⟩=some (I b.choice):=hB.cell 2;have HW:=AA hW;obtain⟨r,hr⟩:∃r,r=K4 a b:=⟨_,rfl⟩;rw[←hr];have HL:=AA (fun V=>Ee a.value b.value V);clear hA hB hW;by_cases h1:a.round=b.round
 ·by_cases h2:a.choice=b.choice
  ·have hr':r=DJ a.value b.value:=by rw[hr];unfold K4;rw[if_neg (fun h=>h h1),if_neg (fun h=>h h2)]
   have n1:(a.round !=b.round)=false:=by rw[h1];exact bne_self_eq_false _
   have n2:(a.choice !=b.choice)=false:=by rw[h2];exact bne_self_eq_false _
   rw[←hr']at HL;clear hr hr' h1 h2;go_enter Tryz.func118,Tryz.ntmps118;go_upto_region 1 with fail
   simp only[←HW.out];go_wp2_with fail
   refine(HL.out _).mono ?_;rintro en w2 ⟨rfl,hb2⟩;go_wp2;go_ret;exact⟨rfl,hbW.trans (hb2.mono hbW.size)⟩
  ·have hr':r=decide (a.choice<b.choice):=by rw[hr];unfold K4;rw[if_neg (fun h=>h h1),if_pos h2]
   have n1:(a.round !=b.round)=false:=by rw[h1];exact bne_self_eq_false _
   have n2:(a.choice !=b.choice)=true:=by simpa using h2
   have HR:=AA hr';clear hr hr' h1 h2;go_enter Tryz.func118,Tryz.ntmps118;go_upto_region 1 with fail
   simp only[←HW.out];go_wp2;go_ret;exact⟨by rw[HR.out];rfl,hbW⟩
 ·have hr':r=decide (a.round<b.round):=by rw[hr];unfold K4;rw[if_pos h1]
  have n1:(a.round !=b.round)=true:=by simpa using h1
  have HR:=AA hr';clear hr hr' h1;go_enter Tryz.func118,Tryz.ntmps118;go_upto_region 1 with fail
  simp only[←HW.out];go_wp2;go_ret;exact⟨by rw[HR.out];rfl,hbW⟩
structure Vl where
 choice:Int
 name:Nm
 deriving DecidableEq
abbrev Vl.cells(o:Vl):Array Value:=#[I o.choice,B o.name.b0,B o.name.b1,B o.name.b2,B o.name.b3,B o.name.b4,B o.name.b5,B o.name.b6,B o.name.b7]
abbrev Vl.val(o:Vl):Value:=.agg o.cells
abbrev Vl.zero:Vl:=⟨0,Nm.zero⟩
abbrev CS:Array Value:=#[.int .i64 0,.int .u8 0,.int .u8 0,.int .u8 0,.int .u8 0,.int .u8 0,.int .u8 0,.int .u8 0,.int .u8 0]
theorem CL:(Tryz.prog.info? 258).map (·.size)=some 9:=by kernel_rfl
abbrev vlc(o:Vl):List Value:=o.cells.toList
theorem Ef(l:List Vl):∀o∈l,(vlc o).length=9:=fun _ _=>rfl
theorem EF{u:Value}(o:Vl)(h:u∈o.cells.toList):u.oneCell'=true:=by
 simp at h;rcases h with rfl|rfl|rfl|rfl|rfl|rfl|rfl|rfl|rfl <;> rfl
def Ew(v:Vt):Vl:=⟨v.choice,v.value⟩
theorem RE:(Tryz.prog.info? 258).map (fun i=>(i.zero,i.size,i.bytes))=some (some (.agg Vl.zero.cells),9,16):=by kernel_rfl
theorem DK(p:Value):Instr.loadAt 258 p=CN 258 p:=rfl
theorem EO(b o:Nat)(w:World):(CN 258 (.pointer (some ⟨b,o,none⟩))).run Tryz.prog w=Cw 258 b o w (AK w b o 9):=CW _ 9 b o w _ Tryz.underlying258 rfl (by kernel_rfl)
theorem Rd.vlRow{w:World}{B' b o:Nat}{l:List Vl}{k:Nat}{v:Vl}(h:Rd w B' (some ⟨b,o,none⟩) (l.flatMap vlc))(hk:l[k]? =some v):AK w b (o+k*9) 9=some v.cells:=by
 have hpos:=(AG.1 hk).1;rcases h with h|⟨b',o',e,hb,hc⟩
 ·have:=AX vlc 9 l (Ef l);rw[h]at this;simp at this;omega
 ·injection e with e
  injection e with e1 e2
  subst e1;subst e2;refine Bo (fun j u hu=>?_) rfl;have hj:j<9:=by
   have:=(AG.1 hu).1;simpa using this
  rw[Nat.add_assoc];refine hc _ u ?_;rw[CG vlc 9 l (Ef l) k j v hk hj,←hu]
theorem Vl.row_name{w:World}{g t:Nat}(v:Vl)(h:Blk w g t v.cells):AK w g 1 8=some v.name.cells:=
 Blk.part h 1 v.name.cells (fun j u hu=>by
  have hj:j<8:=(Aa.1 hu).1;rcases(by omega:j=0∨j=1∨j=2∨j=3∨j=4∨j=5∨j=6∨j=7)with rfl|rfl|rfl|rfl|rfl|rfl|rfl|rfl <;> exact hu)
theorem Sh(a b:Vl)(w:World):(Op.equalIn 10000 258 a.val b.val).run Tryz.prog w= .ok (decide (a=b)) w:=by
 have u3:=Tryz.underlying3;have a3:=Tryz.isAgg3;have z3:=Tryz.sizeOf3;have a5:=Tryz.isAgg24;have z5:=Tryz.sizeOf24;have hS:Tryz.prog.underlying 258=some (.struct (Tryz.prog.fieldsOf 258)):=by kernel_rfl
 rw[show(10000:Nat)=9999+1 from rfl,run_equalIn_agg w 9999 258 _ _ hS (by kernel_rfl)];have e6:=fun w=>Dz a.name b.name w 9997
 simp only[Program.fieldsOf,Tryz.underlying258];go_simp;rw[EW];refine El w ?_;cases a;cases b;simp
theorem RF(b:Bool)(k:Vl)(w:World):(Instr.checkKey b 10000 258 k.val).run Tryz.prog w= .ok () w:=by
 have a3:=Tryz.isAgg3;have z3:=Tryz.sizeOf3;have hi:=fun n w=>G0 b 9998 n w
 have a5:=Tryz.isAgg24;have z5:=Tryz.sizeOf24;have e6:=fun w=>IY b 9997 k.name w
 rw[Instr.checkKey];simp only[Sem.run_bind,run_underlying Tryz.underlying258,Result.andThen_ok];go_simp
theorem Te:Es Tryz.prog 258 Vl.val where
 desc:=⟨_,Tryz.underlying258,fun _ _=>rfl⟩
 check:=RF
 eq a b w:=Sh a b w
 bits k:=GT 9999 _ (by intro v hv;simp at hv;rcases hv with rfl|rfl|rfl|rfl|rfl|rfl|rfl|rfl|rfl <;> simp[Instr.sameBits])
attribute [local go_sem ↓] Go.wp_at_zero Go.wp_at_succ An Au Av Aw DK
attribute [local go_sem] BD BH BI BJ EO AN AW AQ
theorem Ey{o:Oper}{a:Act}(c:Int)(v:Nm)(x0 x1:Operand)(ho:o.op= .build 258 #[(0,x0),(1,x1)])(h0:a.eval x0=I c)(h1:a.eval x1= .agg v.cells)(w:World):(execOp a.eval o).run Tryz.prog w= .ok (.value (Vl.mk c v).val) w:=by
 unfold execOp;rw[ho];simp only[List.map_toArray,List.map_cons,List.map_nil,h0,h1];go_simp
theorem IZ(v:Vt)(w:World):Calls Tryz.prog 213 #[v.val] w fun e w'=>e= .returned (Ew v).val∧Below w.heap.size w w':=by
 obtain⟨W1,hW1⟩:∃W1,W1=w.alloc (Obj.cells v.cells 46):=⟨_,rfl⟩;have hb1:Below w.heap.size w W1:=by rw[hW1];exact(AC _ _).alloc (AB _) _
 have hB1:Blk W1 w.heap.size 46 v.cells:=by rw[hW1];exact Blk.new _ _ _
 obtain⟨q,hq⟩:∃q,q=w.heap.size:=⟨_,rfl⟩;have hs1:W1.heap.size=w.heap.size+1:=by rw[hW1];simp
 obtain⟨z,hzz⟩:∃z,z=w.heap.size+1:=⟨_,rfl⟩;obtain⟨W2,hW2⟩:∃W2,W2=W1.alloc (Obj.cells CS 258):=⟨_,rfl⟩;have hb2:Below w.heap.size w W2:=by rw[hW2];exact hb1.alloc hb1.size _
 have hB2:Blk W2 q 46 v.cells:=by rw[hW2,hq];exact hB1.alloc _
 have x0:W2.cell? ⟨q,3,none⟩=some (I v.choice):=hB2.cell 3;have x1:=v.row_value hB2;have hz:Blk W2 z 258 CS:=by rw[hW2,hzz,←hs1];exact Blk.new _ _ _
 have hzw:w.heap.size≤z:=by omega
 have HW1:=AA hW1;have HW2:=AA hW2;have HZ:=AA hzz;have HQ:=AA hq;have HB2:=AA hz;clear hW1 hW2 hB1 hB2 hzz hq hz hs1;go_enter Tryz.func213,Tryz.ntmps213;go_upto_region 1 with fail
 simp only[←HW1.out,←HW2.out,←HZ.out];simp only[←HQ.out];go_wp2_with (first
  |(refine Great.wpList_readTo rfl (some 7) rfl (Ew v).val (Ey v.choice v.value (.tmp 4) (.tmp 6) rfl rfl rfl _) ?_)
  |(refine AJ rfl 258 (.tmp 2) (.tmp 7) rfl z (Ew v).cells rfl rfl 258 CS HB2.out rfl CL (fun u hu=>EF _ hu) ?_;intro w5 hR5 hg5 hsz5))
 refine bodyPost_ret (results_cell_row (g:=z) (cs:=(Ew v).cells) rfl _ _ _ _ _ rfl hR5 Tryz.underlying258 rfl CL) rfl ⟨rfl,?_⟩;exact hb2.grown hg5 hb2.size (fun k hk=>by injection hk with hk;subst hk;exact hzw)
def Fs(a b:Vl):Bool:=if a.choice≠b.choice then decide (a.choice<b.choice)else DJ a.name b.name
theorem MN(a b:Vl)(w:World):Calls Tryz.prog 252 #[a.val,b.val] w (Al w (Fs a b)):=by
 have hA:Blk ((w.alloc (Obj.cells a.cells 258)).alloc (Obj.cells b.cells 258)) w.heap.size 258 a.cells:=(Blk.new w _ _).alloc _;have hB:Blk ((w.alloc (Obj.cells a.cells 258)).alloc (Obj.cells b.cells 258)) (w.heap.size+1) 258 b.cells:=by
  have:=Blk.new (w.alloc (Obj.cells a.cells 258)) 258 b.cells;simpa using this
 obtain⟨W,hW⟩:∃W,W=(w.alloc (Obj.cells a.cells 258)).alloc (Obj.cells b.cells 258):=⟨_,rfl⟩;have hbW:Below w.heap.size w W:=by rw[hW];exact((AC _ _).alloc (AB _) _).alloc (by simp) _
 rw[←hW]at hA hB;have x0:=a.row_name hA;have y0:=b.row_name hB;have x1:W.cell? ⟨w.heap.size,0,none⟩=some (I a.choice):=hA.cell 0;have y1:W.cell? ⟨w.heap.size+1,0,none⟩=some (I b.choice):=hB.cell 0;have HW:=AA hW;obtain⟨r,hr⟩:∃r,r=Fs a b:=⟨_,rfl⟩;rw[←hr];have HL:=AA (fun V=>Ee a.name b.name V);clear hA hB hW;by_cases h1:a.choice=b.choice
 ·have hr':r=DJ a.name b.name:=by rw[hr];unfold Fs;rw[if_neg (fun h=>h h1)]
  have n1:(a.choice !=b.choice)=false:=by rw[h1];exact bne_self_eq_false _
  rw[←hr']at HL;clear hr hr' h1;go_enter Tryz.func252,Tryz.ntmps252;go_upto_region 1 with fail
  simp only[←HW.out];go_wp2_with (go_at_call 158;refine(HL.out _).mono ?_;rintro en w2 ⟨rfl,hb2⟩)
  go_ret;exact⟨rfl,hbW.trans (hb2.mono hbW.size)⟩
 ·have hr':r=decide (a.choice<b.choice):=by rw[hr];unfold Fs;rw[if_pos h1]
  have n1:(a.choice !=b.choice)=true:=by simpa using h1
  have hd:=hr'.symm;clear hr hr' h1;go_enter Tryz.func252,Tryz.ntmps252;go_upto_region 1 with fail
  simp only[←HW.out];go_wp2;go_ret;exact⟨rfl,hbW⟩
theorem KM(a b:Nat)(ha:a<9223372036854775808)(hb:b<9223372036854775808):bits .or .i64 (a:Int) (b:Int)=((a|||b:Nat):Int):=by
 have hx:a|||b<2^63:=Nat.or_lt_two_pow (by omega) (by omega)
 show IntKind.i64.wrap ((BitVec.ofInt 64 (a:Int)|||BitVec.ofInt 64 (b:Int)).toNat:Int)=_;rw[BitVec.toNat_or,BitVec.ofInt_natCast,BitVec.ofInt_natCast,BitVec.toNat_ofNat,BitVec.toNat_ofNat,Nat.mod_eq_of_lt (by omega),Nat.mod_eq_of_lt (by omega),IntKind.wrap_i64];omega
theorem IK(m s:Nat)(hm:m<1024)(hs:s≤9):m|||2^s<1024:=
 Nat.or_lt_two_pow (n:=10) hm (Nat.pow_lt_pow_right (by omega) (by omega))
theorem Si(m s:Nat)(hm:m<1024)(hs:s≤9):Value.int .i64 (bits .or .i64 (m:Int) (wrap64 (2^s)))= .int .i64 ((m|||2^s:Nat):Int):=by
 have h2:2^s<1024:=Nat.pow_lt_pow_right (n:=10) (by omega) (by omega);have e:wrap64 ((2:Int)^s)=((2^s:Nat):Int):=by
  rw[IntWalk.wrap64_in _ ⟨?_,?_⟩]
  ·simp
  ·have:(0:Int)≤(2:Int)^s:=Int.le_of_lt (Int.pow_pos (by omega));omega
  ·have:((2^s:Nat):Int)=(2:Int)^s:=by simp
   omega
 rw[e,KM m (2^s) (by omega) (by omega)]
def At(x:Nat):Nat→Nat
 |0=>0
 |n+1=>At x n+(x/2^n)%2
def g1F(x:Nat):Nat:=(x/2&&& 6148914691236517205)+(x&&& 6148914691236517205)
def g2F(x:Nat):Nat:=(x/4&&& 3689348814741910323)+(x&&& 3689348814741910323)
def g3F(x:Nat):Nat:=(x/16+x)&&& 1085102592571150095
theorem Eg:∀x:Fin 1024,IntKind.u64.wrap (bits .and .u64 ((x.val:Int)/2) 6148914691236517205+bits .and .u64 (x.val:Int) 6148914691236517205)=((g1F x.val:Nat):Int)∧g1F x.val<1024:=by decide+kernel
theorem UM:∀x:Fin 1024,IntKind.u64.wrap (bits .and .u64 ((x.val:Int)/4) 3689348814741910323+bits .and .u64 (x.val:Int) 3689348814741910323)=((g2F x.val:Nat):Int)∧g2F x.val<1024:=by decide+kernel
theorem UN:∀x:Fin 1024,bits .and .u64 (IntKind.u64.wrap ((x.val:Int)/16+(x.val:Int))) 1085102592571150095=((g3F x.val:Nat):Int):=by decide+kernel
theorem UO:∀x:Fin 1024,IntKind.u64.wrap ((x.val:Int)+(x.val:Int)/256)=((x.val+x.val/256:Nat):Int):=by decide+kernel
theorem UP:∀x:Fin 1024,IntKind.u64.wrap ((x.val:Int)+(x.val:Int)/65536)=(x.val:Int)∧IntKind.u64.wrap ((x.val:Int)+(x.val:Int)/4294967296)=(x.val:Int)∧IntKind.i64.wrap (x.val:Int)=(x.val:Int)∧bits .and .i64 (x.val:Int) 127=((x.val%128:Nat):Int):=by decide+kernel
theorem MO:∀x:Fin 1024,(g3F (g2F (g1F x.val))+g3F (g2F (g1F x.val))/256)%128=At x.val 10∧g3F (g2F (g1F x.val))<1024∧g3F (g2F (g1F x.val))+g3F (g2F (g1F x.val))/256<1024:=by decide+kernel
theorem MP(x:Nat)(w:World)(hx:x<1024):Calls Tryz.prog 72 #[.int .u64 (x:Int)] w fun e w'=>e= .returned (.int .i64 ((At x 10:Nat):Int))∧w'=w:=by
 obtain⟨e1,l1⟩:=Eg ⟨x,hx⟩;obtain⟨e2,l2⟩:=UM ⟨_,l1⟩;have e3:=UN ⟨_,l2⟩;obtain⟨e9,l3,l4⟩:=MO ⟨x,hx⟩;have e4:=UO ⟨_,l3⟩;obtain⟨e5,e6,e7,e8⟩:=UP ⟨_,l4⟩;simp only at e1 e2 e3 e4 e5 e6 e7 e8 e9;rw[e9]at e8;generalize g3F (g2F (g1F x))+g3F (g2F (g1F x))/256=x4 at*;generalize g3F (g2F (g1F x))=x3 at*;generalize g2F (g1F x)=x2 at*;generalize g1F x=x1 at*;generalize At x 10=r at*;clear l1 l2 l3 l4 e9;go_enter Tryz.func72,Tryz.ntmps72;go_wp2;go_ret;exact⟨rfl,rfl⟩
theorem Ht(x:Nat)(hx:x<1024):IntKind.u64.wrap (x:Int)=(x:Int):=by rw[IntKind.wrap_u64];omega
theorem PM(x:Nat)(w:World)(hx:x<1024):Calls Tryz.prog 38 #[.int .u64 (x:Int)] w fun e w'=>e= .returned (.int .i64 ((At x 10:Nat):Int))∧w'=w:=by
 have H:=AA (fun W=>MP x W hx);have hw:=Ht x hx;generalize At x 10=r at*;go_enter Tryz.func38,Tryz.ntmps38;go_wp2_with (go_at_call 72;refine(H.out _).mono ?_;rintro en w2 ⟨rfl,hw2⟩;replace hw2:=hw2.symm;subst hw2)
 go_ret;exact⟨rfl,rfl⟩
theorem D6(x:Nat):∀i,At x i≤i
 |0=>AB _
 |i+1=>by have:=D6 x i;show At x i+(x/2^i)%2≤i+1;omega
end

abbrev VS:=Vt×List UInt8
abbrev Sg.vs(s:Sg):VS:=(s.vote,s.sig)
def CZ:List UInt8→List UInt8→Bool
 |[],_=>true
 |_::_,[]=>false
 |x::a,y::b=>if x=y then CZ a b else decide (x<y)
def GH:List VS→Bool
 |x::y::l=>Bg x.1 y.1&&GH (y::l)
 |_=>true
def CY:List VS→List VS→List VS
 |[],b=>b
 |a,[]=>a
 |x::a,y::b=>
  if Bg x.1 y.1=true then x::CY a (y::b)
  else if Bg y.1 x.1=true then y::CY (x::a) b
  else if CZ x.2 y.2=true then CY (x::a) b
  else CY a (y::b)
termination_by a b=>a.length+b.length
theorem Ia(a:List VS):CY a []=a:=by cases a <;> simp[CY]
theorem Ib(b:List VS):CY [] b=b:=by simp[CY]
theorem Ft:∀(n:Nat) (a b:List VS),a.length+b.length≤n→(CY a b).length≤a.length+b.length
 |_,[],b,_=>by simp[CY]
 |_,x::a,[],_=>by simp[CY]
 |0,x::a,y::b,h=>by simp at h
 |n+1,x::a,y::b,h=>by
  have h1:=Ft n a (y::b) (by simp at h ⊢;omega);have h2:=Ft n (x::a) b (by simp at h ⊢;omega);simp only[Af]at h1 h2 ⊢;rw[CY];split
  ·simp only[Af];omega
  ·split
   ·simp only[Af];omega
   ·split <;> omega
def Eh:Nat→List VS→List VS
 |0,l=>l
 |k+1,l=>if GH l=true then l else CY (Eh k (l.take (l.length/2))) (Eh k (l.drop (l.length/2)))
theorem Ic:∀(k:Nat) (l:List VS),(Eh k l).length≤l.length
 |0,_=>AB _
 |k+1,l=>by
  rw[Eh];split
  ·exact AB _
  ·have h1:=Ic k (l.take (l.length/2));have h2:=Ic k (l.drop (l.length/2));have h3:=Ft _ (Eh k (l.take (l.length/2))) (Eh k (l.drop (l.length/2))) (AB _);rw[AZ]at h1;rw[List.length_drop]at h2;omega
theorem Dt(l:List VS)(h:l.length≤1):GH l=true:=by
 match l,h with
 |[],_=>rfl
 |[_],_=>rfl
theorem FR:∀(k j:Nat) (l:List VS),l.length≤k→l.length≤j→Eh k l=Eh j l
 |0,0,_,_,_=>rfl
 |0,j+1,l,h,_=>by rw[Eh,Eh,if_pos (Dt l (by omega))]
 |k+1,0,l,_,h=>by rw[Eh,Eh,if_pos (Dt l (by omega))]
 |k+1,j+1,l,h,h'=>by
  rw[Eh,Eh];by_cases ha:GH l=true
  ·rw[if_pos ha,if_pos ha]
  ·have h2:2≤l.length:=by
    rcases Nat.lt_or_ge l.length 2 with h3|h3
    ·exact absurd (Dt l (by omega)) ha
    ·exact h3
   rw[if_neg ha,if_neg ha,FR k j (l.take (l.length/2)) (by rw[AZ];omega) (by rw[AZ];omega),
    FR k j (l.drop (l.length/2)) (by rw[List.length_drop];omega) (by rw[List.length_drop];omega)]
def CD(l:List VS):List VS:=Eh l.length l
theorem Ez{l:List VS}(h:GH l=true):CD l=l:=by
 unfold CD;cases hl:l.length with
 |zero=>rfl
 |succ k=>rw[Eh,if_pos h]
theorem MQ{l:List VS}(h:¬GH l=true):CD l=CY (CD (l.take (l.length/2))) (CD (l.drop (l.length/2))):=by
 have h2:2≤l.length:=by
  rcases Nat.lt_or_ge l.length 2 with h3|h3
  ·exact absurd (Dt l (by omega)) h
  ·exact h3
 unfold CD;obtain⟨k,hk⟩:∃k,l.length=k+1:=⟨l.length-1,by omega⟩;rw[show Eh l.length l=Eh (k+1) l from by rw[hk],Eh,if_neg h,
  FR k (l.take (l.length/2)).length (l.take (l.length/2)) (by rw[AZ];omega) (AB _),
  FR k (l.drop (l.length/2)).length (l.drop (l.length/2)) (by rw[List.length_drop];omega) (AB _)]
theorem C7(l:List VS):(CD l).length≤l.length:=Ic _ l
theorem Id:∀(l:List VS),GH l=true↔∀i x y,l[i]? =some x→l[i+1]? =some y→Bg x.1 y.1=true
 |[]=>by simp[GH]
 |[a]=>by simp[GH]
 |a::b::l=>by
  rw[GH,Bool.and_eq_true,Id (b::l)];constructor
  ·rintro⟨h1,h2⟩ i x y hx hy;cases i with
   |zero=>
    simp at hx hy;subst hx;subst hy;exact h1
   |succ i=>exact h2 i x y (by simpa using hx) (by simpa using hy)
  ·intro h;exact⟨h 0 a b rfl rfl,fun i x y hx hy=>h (i+1) x y (by simpa using hx) (by simpa using hy)⟩
section
open Go.RowKit
theorem RG{w w':World}{b e s n b' e' s' n':Nat}{v v':Value}{xs xs':List Value}(h:w.ownsRow b e s v n xs)(h':w.ownsRow b' e' s' v' n' xs')(hne:e≠e')(hg:w.grownBy w' v'.ownBlock):w'.ownsRow b e s v n xs:=by
 refine⟨h.1,?_⟩;rcases h.2 with h0|⟨g,cap,cur,hv,hgb,hh,r⟩
 ·exact .inl h0
 ·exact .inr ⟨g,cap,cur,hv,hgb,(hg.block g (lt_of_block hh) (CC h' hh (Ne.symm hne))).trans hh,r⟩
def Bj(w:World)(b:Nat)(s:Sg):Prop:=s.vote.ok∧w.ownsRow b 5 1 (.slice s.A s.sig.length s.cap) s.sig.length (s.sig.map B)∧s.sig.length≤140737488351232
theorem Bj.ok{w:World}{b:Nat}{s:Sg}(h:Bj w b s):I5 w w.heap.size s∧Sb s:=by
 refine⟨⟨h.1,Rd.of_own h.2.1,h.2.2⟩,?_⟩;rcases h.2.1.2 with⟨hv,hn⟩|⟨g,cap,cur,hv,_,_,h1,h2,_⟩
 ·injection hv with _ _ hc
  refine⟨by omega,by unfold maxLen;omega⟩
 ·injection hv with _ _ hc
  subst hc;exact⟨h1,h2⟩
theorem Bj.alloc{w:World}{b:Nat}{s:Sg}(h:Bj w b s)(o:Obj):Bj (w.alloc o) b s:=⟨h.1,h.2.1.alloc o,h.2.2⟩
def NR(w:World)(l:List VS)(e:Ending)(w':World):Prop:=
 ∃(L:List Sg) (v:Value),e= .returned v∧Below w.heap.size w w'∧w'.ownsRow w.heap.size 62 23 v L.length (L.flatMap sgc)∧FP w' w'.heap.size L∧L.map Sg.vs=CD l
def UQ(w:World)(L:List Sg)(v:Value):Prop:=
 ∃A c,v= .slice A L.length c∧Rd w w.heap.size A (L.flatMap sgc)∧L.length≤c∧c≤maxLen∧FP w w.heap.size L
theorem OI{w:World}{b n:Nat}{v:Value}{L:List Sg}(h:w.ownsRow b 62 23 v n (L.flatMap sgc))(hn:n=L.length)(hs:FP w w.heap.size L):UQ w L v:=by
 subst hn;rcases h.2 with⟨hv,h0⟩|⟨g,cap,cur,hv,_,_,h1,h2,_⟩
 ·subst hv;have hL:L=[]:=AV h0;subst hL;exact⟨none,0,rfl,Rd.nil,AB _,by unfold maxLen;omega,hs⟩
 ·subst hv;exact⟨_,cap,rfl,Rd.of_own h,h1,h2,hs⟩
theorem Dk{P:Program}{o:Oper}{a:Act}{w:World}{K:Act→World→Prop}{Q:Exit→Act→World→Prop}(d:Option Tmp)(hd:o.dst=d)(t e:TypeId)(x:Operand)(ho:o.op= .buildSlice t 1 #[(0,x)])(cs:Array Value)(hx:a.eval x= .agg cs)(hu:P.underlying t=some (.slice e))(hi:(P.info? e).map (fun i=>(i.zero.isSome,i.size))=some (true,cs.size))(hpos:0<cs.size)(hsm:cs.size≤1000)(h:K (a.put d (.slice (some ⟨w.heap.size,0,none⟩) 1 1)) (w.alloc (.cells cs e))):o.wp P a w K Q:=by
 subst hd;cases hie:P.info? e with
 |none=>simp[hie]at hi
 |some ie=>
  simp only[hie,Option.map_some,Option.some.injEq,Prod.mk.injEq]at hi;obtain⟨hz,hsz⟩:=hi;obtain⟨z,hzz⟩:=Option.isSome_iff_exists.1 hz;refine wp_buildSlice t e 1 #[(0,x)] ho cs ie z hu hie hzz (by rw[hsz];omega) (by rw[hsz];omega) ?_ h;have hf:=Great.fill_whole (s:=ie.size) (by rw[hsz];exact hpos) [Value.agg cs] ((Array.range (1*ie.size)).map (z.cells[· %z.cells.size]!)) (by intro v hv;rw[AR.1 hv,hsz];rfl) (by simp);have ev:(#[(0,x)].map fun((i,x):Nat×Operand)=>(i,a.eval x)).toList=([Value.agg cs].zipIdx 0).map fun x=>(x.2,x.1):=by simp[hx]
  rw[ev,hf];simp[Value.cells]
end
end Go.Proofs.YtadllffeoibelaaGreat
