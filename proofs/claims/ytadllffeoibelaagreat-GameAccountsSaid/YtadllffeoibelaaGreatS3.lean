/-
  Parts of the proof. No condition.
-/
import Derived.Test.YtadllffeoibelaaGreatS2
import Derived.Laws.ResultCell
import Derived.ArgAppend
open Go.Proofs.Tryz
namespace Go.Proofs.YtadllffeoibelaaGreat
set_option maxRecDepth 100000
set_option maxHeartbeats 32000000
set_option linter.all false
section
open Go.RowKit
attribute [local go_sem ↓] Go.wp_at_zero Go.wp_at_succ
theorem OQ(d i n k c b o:Nat)(leaf r1 up r:Nm)(w:World)(hk:k=2^d)(hn:n=2^(d+1))(hd:d<=40)(hik:k<=i)(hin:i<n)(hc:d+1<=c)(hb:b<w.heap.size)(hup:∀j u,(nmc up)[j]? =some u->w.cell? ⟨b,o+d*8+j,none⟩=some u)(h1:∀W,ZN w W->Calls prog 275 #[leaf.val,.int .i64 ((i-k:Nat):Int),.int .i64 (k:Int),.slice (some ⟨b,o,none⟩) d c] W (BM W r1))(hr:Dh (18::(up.bytes++r1.bytes))=r):Calls prog 275 #[leaf.val,.int .i64 (i:Int),.int .i64 (n:Int),.slice (some ⟨b,o,none⟩) (d+1) c] w (BM w r):=by
 have HS:=AA hr;clear hr;have H1:=AA h1;clear h1;have Hup:=AA hup;clear hup;have hk1:1<=k:=by rw[hk];exact Nat.one_le_two_pow
 have hkb:k<=1099511627776:=by rw[hk];exact Nat.pow_le_pow_right (j:=40) (by omega) hd
 have h2:n=2*k:=by rw[hn,hk,Nat.pow_succ];omega
 have xO:∀W,Calls prog 137 #[.int .i64 (n:Int)] W fun en w'=>en= .returned (.int .i64 (k:Int))/\w'=W:=fun W=>by
  rw[hk];exact DT d n W hn hd
 have HC:=AA xO;clear xO;have hne:((n:Int)==1)=false:=by rw[beq_eq_false_iff_ne];omega
 have h3:n<=2*k:=by omega
 have h4:2*k<=n:=by omega
 clear h2 hk hn;have hnl:¬((i:Int)<(k:Int)):=by omega
 have hw1:IntKind.i64.wrap ((i:Int)-(k:Int))=((i-k:Nat):Int):=by rw[IntKind.wrap_i64];omega
 have hw2:IntKind.i64.wrap ((n:Int)-(k:Int))=(k:Int):=by rw[IntKind.wrap_i64];omega
 go_enter func275,ntmps275;go_wp2_with ((go_at_call 137;refine(HC.out _).mono ?_;rintro en w' ⟨rfl,rfl⟩))
 have hX:Blk ((w.alloc (Obj.cells leaf.cells 24)).alloc (Obj.cells #[.int .u8 0,.int .u8 0,.int .u8 0,.int .u8 0,.int .u8 0,.int .u8 0,.int .u8 0,.int .u8 0] 24)) w.heap.size 24 leaf.cells:=(Blk.new w _ _).alloc _;have hR:Blk ((w.alloc (Obj.cells leaf.cells 24)).alloc (Obj.cells #[.int .u8 0,.int .u8 0,.int .u8 0,.int .u8 0,.int .u8 0,.int .u8 0,.int .u8 0,.int .u8 0] 24)) (w.heap.size+1) 24 #[.int .u8 0,.int .u8 0,.int .u8 0,.int .u8 0,.int .u8 0,.int .u8 0,.int .u8 0,.int .u8 0]:=by
  have:=Blk.new (w.alloc (Obj.cells leaf.cells 24)) 24 #[.int .u8 0,.int .u8 0,.int .u8 0,.int .u8 0,.int .u8 0,.int .u8 0,.int .u8 0,.int .u8 0];simpa using this
 have hbW:ZN w ((w.alloc (Obj.cells leaf.cells 24)).alloc (Obj.cells #[.int .u8 0,.int .u8 0,.int .u8 0,.int .u8 0,.int .u8 0,.int .u8 0,.int .u8 0,.int .u8 0] 24)):=((AC _ _).alloc (AB _) _).alloc (by simp) _;generalize ((w.alloc (Obj.cells leaf.cells 24)).alloc (Obj.cells #[.int .u8 0,.int .u8 0,.int .u8 0,.int .u8 0,.int .u8 0,.int .u8 0,.int .u8 0,.int .u8 0] 24))=W at*;have x0:W.cell? ⟨w.heap.size,0,none⟩=some (B leaf.b0):=hX.cell 0;have x1:W.cell? ⟨w.heap.size,1,none⟩=some (B leaf.b1):=hX.cell 1;have x2:W.cell? ⟨w.heap.size,2,none⟩=some (B leaf.b2):=hX.cell 2;have x3:W.cell? ⟨w.heap.size,3,none⟩=some (B leaf.b3):=hX.cell 3;have x4:W.cell? ⟨w.heap.size,4,none⟩=some (B leaf.b4):=hX.cell 4;have x5:W.cell? ⟨w.heap.size,5,none⟩=some (B leaf.b5):=hX.cell 5;have x6:W.cell? ⟨w.heap.size,6,none⟩=some (B leaf.b6):=hX.cell 6;have x7:W.cell? ⟨w.heap.size,7,none⟩=some (B leaf.b7):=hX.cell 7;have y0:W.cell? ⟨b,o+d*8,none⟩=some (B up.b0):=(hbW.cell (p:=⟨b,o+d*8,none⟩) hb).trans (Hup.out 0 _ rfl);have y1:W.cell? ⟨b,o+d*8+1,none⟩=some (B up.b1):=(hbW.cell (p:=⟨b,o+d*8+1,none⟩) hb).trans (Hup.out 1 _ rfl);have y2:W.cell? ⟨b,o+d*8+2,none⟩=some (B up.b2):=(hbW.cell (p:=⟨b,o+d*8+2,none⟩) hb).trans (Hup.out 2 _ rfl);have y3:W.cell? ⟨b,o+d*8+3,none⟩=some (B up.b3):=(hbW.cell (p:=⟨b,o+d*8+3,none⟩) hb).trans (Hup.out 3 _ rfl);have y4:W.cell? ⟨b,o+d*8+4,none⟩=some (B up.b4):=(hbW.cell (p:=⟨b,o+d*8+4,none⟩) hb).trans (Hup.out 4 _ rfl);have y5:W.cell? ⟨b,o+d*8+5,none⟩=some (B up.b5):=(hbW.cell (p:=⟨b,o+d*8+5,none⟩) hb).trans (Hup.out 5 _ rfl);have y6:W.cell? ⟨b,o+d*8+6,none⟩=some (B up.b6):=(hbW.cell (p:=⟨b,o+d*8+6,none⟩) hb).trans (Hup.out 6 _ rfl);have y7:W.cell? ⟨b,o+d*8+7,none⟩=some (B up.b7):=(hbW.cell (p:=⟨b,o+d*8+7,none⟩) hb).trans (Hup.out 7 _ rfl);have xq:=hX.lt;have hlt:=hR.lt;have yB:b<W.heap.size:=Nat.lt_of_lt_of_le hb hbW.size;have i1:(0:Int)<=(d:Int):=by omega
 have i2:(d:Int)<(d:Int)+1:=by omega
 have i3:(d:Int)<=(c:Int):=by omega
 have n1:¬w.heap.size+1=b:=by omega
 have n2:¬b=w.heap.size+1:=by omega
 have HH1:Hid (Calls prog 275 #[leaf.val,.int .i64 ((i-k:Nat):Int),.int .i64 (k:Int),.slice (some ⟨b,o,none⟩) d c] W.drew fun e w'=>e= .returned r1.val/\ZN W w'/\(w'.cell? ⟨w.heap.size,0,none⟩=some (B leaf.b0)/\w'.cell? ⟨w.heap.size,1,none⟩=some (B leaf.b1)/\w'.cell? ⟨w.heap.size,2,none⟩=some (B leaf.b2)/\w'.cell? ⟨w.heap.size,3,none⟩=some (B leaf.b3)/\w'.cell? ⟨w.heap.size,4,none⟩=some (B leaf.b4)/\w'.cell? ⟨w.heap.size,5,none⟩=some (B leaf.b5)/\w'.cell? ⟨w.heap.size,6,none⟩=some (B leaf.b6)/\w'.cell? ⟨w.heap.size,7,none⟩=some (B leaf.b7)/\w'.cell? ⟨b,o+d*8,none⟩=some (B up.b0)/\w'.cell? ⟨b,o+d*8+1,none⟩=some (B up.b1)/\w'.cell? ⟨b,o+d*8+2,none⟩=some (B up.b2)/\w'.cell? ⟨b,o+d*8+3,none⟩=some (B up.b3)/\w'.cell? ⟨b,o+d*8+4,none⟩=some (B up.b4)/\w'.cell? ⟨b,o+d*8+5,none⟩=some (B up.b5)/\w'.cell? ⟨b,o+d*8+6,none⟩=some (B up.b6)/\w'.cell? ⟨b,o+d*8+7,none⟩=some (B up.b7))):=by
  refine(H1.out _ hbW.drew).mono ?_;rintro en w1 ⟨rfl,hb1⟩;have hb2:ZN W w1:=(AC _ _).drew.trans hb1;exact⟨rfl,hb2,(hb2.cell (p:=⟨w.heap.size,0,none⟩) xq).trans x0,(hb2.cell (p:=⟨w.heap.size,1,none⟩) xq).trans x1,(hb2.cell (p:=⟨w.heap.size,2,none⟩) xq).trans x2,(hb2.cell (p:=⟨w.heap.size,3,none⟩) xq).trans x3,(hb2.cell (p:=⟨w.heap.size,4,none⟩) xq).trans x4,(hb2.cell (p:=⟨w.heap.size,5,none⟩) xq).trans x5,(hb2.cell (p:=⟨w.heap.size,6,none⟩) xq).trans x6,(hb2.cell (p:=⟨w.heap.size,7,none⟩) xq).trans x7,(hb2.cell (p:=⟨b,o+d*8,none⟩) yB).trans y0,(hb2.cell (p:=⟨b,o+d*8+1,none⟩) yB).trans y1,(hb2.cell (p:=⟨b,o+d*8+2,none⟩) yB).trans y2,(hb2.cell (p:=⟨b,o+d*8+3,none⟩) yB).trans y3,(hb2.cell (p:=⟨b,o+d*8+4,none⟩) yB).trans y4,(hb2.cell (p:=⟨b,o+d*8+5,none⟩) yB).trans y5,(hb2.cell (p:=⟨b,o+d*8+6,none⟩) yB).trans y6,(hb2.cell (p:=⟨b,o+d*8+7,none⟩) yB).trans y7⟩
 have HH2:Hid (∀w1,ZN W w1->Calls prog 138 #[.int .u8 18,up.val,r1.val] w1 fun e w'=>e= .returned r.val/\ZN W w'/\(w'.cell? ⟨w.heap.size,0,none⟩=some (B leaf.b0)/\w'.cell? ⟨w.heap.size,1,none⟩=some (B leaf.b1)/\w'.cell? ⟨w.heap.size,2,none⟩=some (B leaf.b2)/\w'.cell? ⟨w.heap.size,3,none⟩=some (B leaf.b3)/\w'.cell? ⟨w.heap.size,4,none⟩=some (B leaf.b4)/\w'.cell? ⟨w.heap.size,5,none⟩=some (B leaf.b5)/\w'.cell? ⟨w.heap.size,6,none⟩=some (B leaf.b6)/\w'.cell? ⟨w.heap.size,7,none⟩=some (B leaf.b7)/\w'.cell? ⟨b,o+d*8,none⟩=some (B up.b0)/\w'.cell? ⟨b,o+d*8+1,none⟩=some (B up.b1)/\w'.cell? ⟨b,o+d*8+2,none⟩=some (B up.b2)/\w'.cell? ⟨b,o+d*8+3,none⟩=some (B up.b3)/\w'.cell? ⟨b,o+d*8+4,none⟩=some (B up.b4)/\w'.cell? ⟨b,o+d*8+5,none⟩=some (B up.b5)/\w'.cell? ⟨b,o+d*8+6,none⟩=some (B up.b6)/\w'.cell? ⟨b,o+d*8+7,none⟩=some (B up.b7))/\(w'.cell? ⟨w.heap.size+1,0,none⟩=some (.int .u8 0)/\w'.frozen? ⟨w.heap.size+1,0,none⟩=false/\w'.cell? ⟨w.heap.size+1,1,none⟩=some (.int .u8 0)/\w'.frozen? ⟨w.heap.size+1,1,none⟩=false/\w'.cell? ⟨w.heap.size+1,2,none⟩=some (.int .u8 0)/\w'.frozen? ⟨w.heap.size+1,2,none⟩=false/\w'.cell? ⟨w.heap.size+1,3,none⟩=some (.int .u8 0)/\w'.frozen? ⟨w.heap.size+1,3,none⟩=false/\w'.cell? ⟨w.heap.size+1,4,none⟩=some (.int .u8 0)/\w'.frozen? ⟨w.heap.size+1,4,none⟩=false/\w'.cell? ⟨w.heap.size+1,5,none⟩=some (.int .u8 0)/\w'.frozen? ⟨w.heap.size+1,5,none⟩=false/\w'.cell? ⟨w.heap.size+1,6,none⟩=some (.int .u8 0)/\w'.frozen? ⟨w.heap.size+1,6,none⟩=false/\w'.cell? ⟨w.heap.size+1,7,none⟩=some (.int .u8 0)/\w'.frozen? ⟨w.heap.size+1,7,none⟩=false)):=by
  intro w1 hbx;refine(JG 18 up r1 r _ HS.out).mono ?_;rintro en w2 ⟨rfl,hb1⟩;have hb2:ZN W w2:=hbx.trans (hb1.mono hbx.size);have hR2:=hR.below hb2 hR.lt;exact⟨rfl,hb2,⟨(hb2.cell (p:=⟨w.heap.size,0,none⟩) xq).trans x0,(hb2.cell (p:=⟨w.heap.size,1,none⟩) xq).trans x1,(hb2.cell (p:=⟨w.heap.size,2,none⟩) xq).trans x2,(hb2.cell (p:=⟨w.heap.size,3,none⟩) xq).trans x3,(hb2.cell (p:=⟨w.heap.size,4,none⟩) xq).trans x4,(hb2.cell (p:=⟨w.heap.size,5,none⟩) xq).trans x5,(hb2.cell (p:=⟨w.heap.size,6,none⟩) xq).trans x6,(hb2.cell (p:=⟨w.heap.size,7,none⟩) xq).trans x7,(hb2.cell (p:=⟨b,o+d*8,none⟩) yB).trans y0,(hb2.cell (p:=⟨b,o+d*8+1,none⟩) yB).trans y1,(hb2.cell (p:=⟨b,o+d*8+2,none⟩) yB).trans y2,(hb2.cell (p:=⟨b,o+d*8+3,none⟩) yB).trans y3,(hb2.cell (p:=⟨b,o+d*8+4,none⟩) yB).trans y4,(hb2.cell (p:=⟨b,o+d*8+5,none⟩) yB).trans y5,(hb2.cell (p:=⟨b,o+d*8+6,none⟩) yB).trans y6,(hb2.cell (p:=⟨b,o+d*8+7,none⟩) yB).trans y7⟩,hR2.cell 0,hR2.frozen 0,hR2.cell 1,hR2.frozen 1,hR2.cell 2,hR2.frozen 2,hR2.cell 3,hR2.frozen 3,hR2.cell 4,hR2.frozen 4,hR2.cell 5,hR2.frozen 5,hR2.cell 6,hR2.frozen 6,hR2.cell 7,hR2.frozen 7⟩
 go_region_held3 (fun w'=>w'.cell? ⟨w.heap.size,0,none⟩=some (B leaf.b0)/\w'.cell? ⟨w.heap.size,1,none⟩=some (B leaf.b1)/\w'.cell? ⟨w.heap.size,2,none⟩=some (B leaf.b2)/\w'.cell? ⟨w.heap.size,3,none⟩=some (B leaf.b3)/\w'.cell? ⟨w.heap.size,4,none⟩=some (B leaf.b4)/\w'.cell? ⟨w.heap.size,5,none⟩=some (B leaf.b5)/\w'.cell? ⟨w.heap.size,6,none⟩=some (B leaf.b6)/\w'.cell? ⟨w.heap.size,7,none⟩=some (B leaf.b7)/\w'.cell? ⟨b,o+d*8,none⟩=some (B up.b0)/\w'.cell? ⟨b,o+d*8+1,none⟩=some (B up.b1)/\w'.cell? ⟨b,o+d*8+2,none⟩=some (B up.b2)/\w'.cell? ⟨b,o+d*8+3,none⟩=some (B up.b3)/\w'.cell? ⟨b,o+d*8+4,none⟩=some (B up.b4)/\w'.cell? ⟨b,o+d*8+5,none⟩=some (B up.b5)/\w'.cell? ⟨b,o+d*8+6,none⟩=some (B up.b6)/\w'.cell? ⟨b,o+d*8+7,none⟩=some (B up.b7)) (go_keep)
  ((first
   |(go_at_call 275;refine HH1.out.mono ?_;rintro en w1 ⟨rfl,hb1,p0,p1,p2,p3,p4,p5,p6,p7,p8,p9,p10,p11,p12,p13,p14,p15⟩)
   |(go_at_call 138;refine(HH2.out _ hb1).mono ?_;rintro en w2 ⟨rfl,hb2,⟨q0,q1,q2,q3,q4,q5,q6,q7,q8,q9,q10,q11,q12,q13,q14,q15⟩,z0,f0,z1,f1,z2,f2,z3,f3,z4,f4,z5,f5,z6,f6,z7,f7⟩)))
 all_goals
  have hFP:ZN w w2:=hbW.trans (hb2.mono hbW.size);have hR6:=(((((((((hR.below hb2 hR.lt).put 0 (B r.b0)).put 1 (B r.b1)).put 2 (B r.b2)).put 3 (B r.b3)).put 4 (B r.b4)).put 5 (B r.b5)).put 6 (B r.b6)).put 7 (B r.b7));have xY:=((((((((hFP.setCell (p:=⟨w.heap.size+1,0,none⟩) (by simp) (B r.b0)).setCell (p:=⟨w.heap.size+1,1,none⟩) (by simp) (B r.b1)).setCell (p:=⟨w.heap.size+1,2,none⟩) (by simp) (B r.b2)).setCell (p:=⟨w.heap.size+1,3,none⟩) (by simp) (B r.b3)).setCell (p:=⟨w.heap.size+1,4,none⟩) (by simp) (B r.b4)).setCell (p:=⟨w.heap.size+1,5,none⟩) (by simp) (B r.b5)).setCell (p:=⟨w.heap.size+1,6,none⟩) (by simp) (B r.b6)).setCell (p:=⟨w.heap.size+1,7,none⟩) (by simp) (B r.b7));clear p0 p1 p2 p3 p4 p5 p6 p7 p8 p9 p10 p11 p12 p13 p14 p15 q0 q1 q2 q3 q4 q5 q6 q7 q8 q9 q10 q11 q12 q13 q14 q15 z0 z1 z2 z3 z4 z5 z6 z7 f0 f1 f2 f3 f4 f5 f6 f7 x0 x1 x2 x3 x4 x5 x6 x7 y0 y1 y2 y3 y4 y5 y6 y7 HH1 HH2 hR hX;go_wp2;exact bodyPost_ret (results_cell_row (g:=w.heap.size+1) (cs:=r.cells) rfl _ _ _ _ _ rfl hR6 underlying24 rfl Ag) rfl ⟨rfl,xY⟩
end
section
open Go.RowKit
def Kz(w:World)(b o:Nat)(l:List Nm):Prop:=∀t nm,l[t]? =some nm->∀j u,(nmc nm)[j]? =some u->w.cell? ⟨b,o+t*8+j,none⟩=some u
theorem Kz.below{w W:World}{b o:Nat}{l:List Nm}(h:Kz w b o l)(hb:b<w.heap.size)(hw:ZN w W):Kz W b o l:=
 fun t nm ht j u hu=>(hw.cell (p:=⟨b,o+t*8+j,none⟩) hb).trans (h t nm ht j u hu)
theorem Fp(leaf:Nm)(c b o:Nat)(path:List Nm):∀(d i n:Nat) (w:World),n=2^d->d<=40->d<=path.length->d<=c->i<n->b<w.heap.size->Kz w b o path->
  Calls prog 275 #[leaf.val,.int .i64 (i:Int),.int .i64 (n:Int),.slice (some ⟨b,o,none⟩) d c] w (BM w (CM leaf d i path))
 |0,i,n,w,hn,_,_,_,_,_,_=>by
  obtain rfl:n=1:=hn;exact Ll i leaf _ _ c w rfl
 |d+1,i,n,w,hn,hd,hl,hc,hi,hb,hp=>by
  have hx:path[d]? =some (path.getD d Nm.zero):=by
   rw[List.getD_eq_getElem?_getD,AD (by omega)];rfl
  have h2:n=2*2^d:=by rw[hn,Nat.pow_succ];omega
  by_cases h:i<2^d
  ·rw[CM,if_pos h];exact Nz d i n (2^d) c b o leaf (CM leaf d i path) (path.getD d Nm.zero) _ w rfl hn (by omega) h hc hb (hp d _ hx)
    (fun W hW=>Fp leaf c b o path d i (2^d) W rfl (by omega) (by omega) (by omega) h (Nat.lt_of_lt_of_le hb hW.size) (hp.below hb hW)) rfl
  ·rw[CM,if_neg h];exact OQ d i n (2^d) c b o leaf (CM leaf d (i-2^d) path) (path.getD d Nm.zero) _ w rfl hn (by omega) (by omega) hi hc hb (hp d _ hx)
    (fun W hW=>Fp leaf c b o path d (i-2^d) (2^d) W rfl (by omega) (by omega) (by omega) (by omega) (Nat.lt_of_lt_of_le hb hW.size) (hp.below hb hW)) rfl
theorem AW{P:Program}{fn:Func}{p u:Tmp}{ty:TypeId}(h:fn.results=#[.cell p ty,.tmp u])(tmps:Array Value)(w:World)(g:Nat)(t:TypeId)(cs:Array Value)(fr:Nat×Nat)(d:TypeDesc)(hp:tmps.getD p undef= .pointer (some ⟨g,0,none⟩))(hg:w.heap[g]? =some (.cells cs t fr))(hu:P.underlying ty=some d)(hd:(match d with |.struct _|.array _ _=>true|_=>false)=true)(hi:(P.info? ty).map (·.size)=some cs.size):(results fn tmps).run P w= .ok (.tuple #[.agg cs,tmps.getD u undef]) w:=by
 rw[results_cell_tmp h,hp];simp[asAddr,Sem.run_pure,Result.andThen,run_loadVar_row w g t ty cs fr d hg hu hd hi]
theorem OR(leaf r:Nm)(i c b o:Nat)(w:World)(hi:i<32)(h1:∀W,ZN w W->Calls prog 275 #[leaf.val,.int .i64 (i:Int),.int .i64 32,.slice (some ⟨b,o,none⟩) 5 c] W (BM W r)):Calls prog 248 #[leaf.val,.int .i64 (i:Int),.int .i64 32,.slice (some ⟨b,o,none⟩) 5 c] w fun e w'=>e= .returned (.tuple #[r.val,.bool true])/\ZN w w':=by
 have H1:=AA h1;clear h1;have HD:=AA (fun W=>Qm i W hi);go_enter func248,ntmps248;go_wp2_with ((go_at_call 254;refine(HD.out _).mono ?_;rintro en w' ⟨rfl,rfl⟩))
 have hR:Blk ((w.alloc (Obj.cells leaf.cells 24)).alloc (Obj.cells #[.int .u8 0,.int .u8 0,.int .u8 0,.int .u8 0,.int .u8 0,.int .u8 0,.int .u8 0,.int .u8 0] 24)) (w.heap.size+1) 24 #[.int .u8 0,.int .u8 0,.int .u8 0,.int .u8 0,.int .u8 0,.int .u8 0,.int .u8 0,.int .u8 0]:=by
  have:=Blk.new (w.alloc (Obj.cells leaf.cells 24)) 24 #[.int .u8 0,.int .u8 0,.int .u8 0,.int .u8 0,.int .u8 0,.int .u8 0,.int .u8 0,.int .u8 0];simpa using this
 have hbW:ZN w ((w.alloc (Obj.cells leaf.cells 24)).alloc (Obj.cells #[.int .u8 0,.int .u8 0,.int .u8 0,.int .u8 0,.int .u8 0,.int .u8 0,.int .u8 0,.int .u8 0] 24)):=((AC _ _).alloc (AB _) _).alloc (by simp) _;generalize ((w.alloc (Obj.cells leaf.cells 24)).alloc (Obj.cells #[.int .u8 0,.int .u8 0,.int .u8 0,.int .u8 0,.int .u8 0,.int .u8 0,.int .u8 0,.int .u8 0] 24))=W at*;refine(H1.out W hbW).mono ?_;rintro en w5 ⟨rfl,hb5⟩;have hZ5:=hR.below hb5 hR.lt;have xP:=hbW.trans (hb5.mono hbW.size);clear hR hbW hb5;go_wp2_with (refine AI rfl 24 (.tmp 8) (.tmp 27) rfl (w.heap.size+1) _ rfl rfl 24 _ hZ5 rfl Ag ?s2 ?_)
 case s2=>exact⟨rfl,rfl,rfl,rfl,rfl,rfl,rfl,rfl⟩
 intro w6 hZ6 hg6 hs6;have xY:ZN w w6:=xP.grown hg6 xP.size (by rintro j ⟨⟩;omega);go_wp2;exact bodyPost_ret (AW (g:=w.heap.size+1) (cs:=r.cells) rfl _ _ _ _ _ rfl hZ6 underlying24 rfl Ag) rfl ⟨rfl,xY⟩
def Ip(l:List UInt8):List Nat:=l.flatMap fun b=>[b.toNat/16,b.toNat%16]
def Iq(l:List UInt8):Nat:=(l.map fun b=>b.toNat/16+b.toNat%16).sum
def Dq(m:Nm):List Nat:=Ip m.bytes++[(240-Iq m.bytes)/16,(240-Iq m.bytes)%16]
abbrev N(n:Nat):Value:=.int .i64 (n:Int)
theorem SJ(l:List UInt8)(b:UInt8):Ip (l++[b])=Ip l++[b.toNat/16,b.toNat%16]:=by simp[Ip]
theorem SK(l:List UInt8)(b:UInt8):Iq (l++[b])=Iq l+(b.toNat/16+b.toNat%16):=by simp[Iq]
theorem M4:∀l:List UInt8,Iq l<=30*l.length
 |[]=>by simp[Iq]
 |b::r=>by
  have h:=M4 r;have hb:=b.toNat_lt;simp only[Iq,List.map_cons,List.sum_cons,Ah]at*;omega
theorem Jo:∀l:List UInt8,(Ip l).length=2*l.length
 |[]=>rfl
 |b::r=>by
  have h:=Jo r;simp only[Ip,List.flatMap_cons,AF,Ah,List.length_nil]at*;omega
theorem RA:∀(l:List UInt8) (d:Nat),d∈Ip l->d<=15
 |[],d,h=>by simp[Ip]at h
 |b::r,d,h=>by
  have hb:=b.toNat_lt;simp only[Ip,List.flatMap_cons,AP,List.mem_cons,List.not_mem_nil,or_false]at h;rcases h with(h|h)|h
  ·omega
  ·omega
  ·exact RA r d (by simpa[Ip]using h)
theorem FC(m:Nm):(Dq m).length=18:=by simp[Dq,Jo,Nm.bytes]
theorem JL(m:Nm)(d:Nat)(h:d∈Dq m):d<=15:=by
 have hs:=M4 m.bytes;have hl:m.bytes.length=8:=rfl;simp only[Dq,AP,List.mem_cons,List.not_mem_nil,or_false]at h;rcases h with h|h|h
 ·exact RA _ d h
 ·omega
 ·omega
theorem Fq{α:Type}(l:List α)(k:Nat)(h:k<l.length):l.take (k+1)=l.take k++[l[k]]:=List.take_succ_eq_append_getElem h
def Dl(v:Nm)(c p:Nat):Nat->Nm
 |0=>v
 |n+1=>Dh (33::((Dl v c p n).bytes++[UInt8.ofNat c,UInt8.ofNat (p+n)]))
def WP(l:List Nm):Nm:=Dh (34::l.flatMap Nm.bytes)
def K0(m:Nm)(sig:List Nm)(c:Nat):Nm:=Dl (sig.getD c Nm.zero) c ((Dq m).getD c 0) (15-(Dq m).getD c 0)
def OS(m:Nm)(sig:List Nm):Nm:=WP ((List.range 18).map (K0 m sig))
def JM(b:List UInt8)(at_:Nat):Nm:=Nm.ofList (b.drop at_)
def B9(b:List UInt8)(at_ n:Nat):List Nm:=(List.range n).map fun i=>JM b (at_+8*i)
def EF(sig:List UInt8)(at_ j:Nat)(m:Nm):Nm:=CM (OS m (B9 sig at_ 18)) 5 j (B9 sig (at_+144) 5)
def Cv(sig:List UInt8):Nat:=(sig.getD 0 0).toNat*256+(sig.getD 1 0).toNat
def J5(pub m:Nm)(sig:List UInt8):Bool:=
 decide (sig.length=370)&&(decide (Cv sig<1024)&&decide (EF sig 186 (Cv sig/32) (EF sig 2 (Cv sig%32) m)=pub))
abbrev At:Array Value:=#[.int .u8 0,.int .u8 0,.int .u8 0,.int .u8 0,.int .u8 0,.int .u8 0,.int .u8 0,.int .u8 0]
theorem K2(n:Nat)(h:n<=255):B (UInt8.ofNat n)= .int .u8 (n:Int):=by
 rw[Value.int.injEq];refine⟨rfl,?_⟩;simp;omega
theorem Dr{w w1 w2:World}(hb:ZN w w1)(hg:w1.grownBy w2 none):ZN w w2:=hb.grown hg hb.size (by rintro k ⟨⟩)
theorem K3(v:Nm)(c p q:Nat)(w:World)(hc:c<=255)(hpq:p<=q)(hq:q<=255):Calls prog 188 #[v.val,.int .i64 (c:Int),.int .i64 (p:Int),.int .i64 (q:Int)] w (BM w (Dl v c p (q-p))):=by
 obtain⟨i0,hi,hz0,hz1,hz2⟩:=info_parts Bf;go_enter func188,ntmps188;go_wp2;have hX:Blk ((w.alloc (Obj.cells v.cells 24)).alloc (Obj.cells At 24)) w.heap.size 24 v.cells:=(Blk.new w _ _).alloc _;have hR:Blk ((w.alloc (Obj.cells v.cells 24)).alloc (Obj.cells At 24)) (w.heap.size+1) 24 At:=by
  have:=Blk.new (w.alloc (Obj.cells v.cells 24)) 24 At;simpa using this
 have hbW:ZN w ((w.alloc (Obj.cells v.cells 24)).alloc (Obj.cells At 24)):=((AC _ _).alloc (AB _) _).alloc (by simp) _;generalize ((w.alloc (Obj.cells v.cells 24)).alloc (Obj.cells At 24))=W at*
 go_loopw [13] (fun i wr=>∃k:Nat,k<=q-p/\i= .int .i64 k/\Blk wr w.heap.size 24 (Dl v c p k).cells/\Blk wr (w.heap.size+1) 24 At/\ZN w wr)
  (fun i _=>q-(intOf i).toNat)
 case atStart=>exact⟨0,by omega,rfl,hX,hR,hbW⟩
 case round=>
  clear hX hR hbW;obtain⟨k,hk,rfl,hX,hR,hb⟩:=hrel;by_cases hlt:k<q-p
  ·obtain⟨r,hr⟩:=ZH (Dl v c p (k+1));have hr2:Dh (33::((Dl v c p k).bytes++[UInt8.ofNat c,UInt8.ofNat (p+k)]))=r:=by rw[hr];rfl
   have Hr:=AA hr;clear hr;have Hr2:=AA hr2;clear hr2;generalize Dl v c p k=x at*;have hb1:=K2 c hc;have hb2:=K2 (p+k) (by omega);generalize UInt8.ofNat c=b1 at*;generalize UInt8.ofNat (p+k)=b2 at*;have HB1:=AA hb1;clear hb1;have HB2:=AA hb2;clear hb2;have hDh:k+p<q:=by omega
   have hDf:=hX.lt;go_wp2_with (at_builtin;refine wpList_append_grows _ rfl (.tmp 16) (.tmp 23) _ rfl 5 i0 (.int .u8 0) 1 1 underlying60 hi hz0 hz1 hz2 rfl (by decide) (some ⟨w.heap.size,0,none⟩) 8 8 (x.bytes.map B) rfl ?r0 rfl ?r1 ⟨wr.heap.size,0,none⟩ 2 2 [B b1,B b2] rfl rfl ?r2 ?r3 ?r4 ?r5 ?r6 ?_)
   case r0=>intro h;cases h
   case r1=>
    intro b hbe j u hu;injection hbe with hbe;subst hbe
    rw[Addr.add_mid,Nat.zero_add,(hX.alloc _).cell];simpa[Nm.bytes]using hu
   case r2=>
    intro j u hu;rw[Addr.add_mid,Nat.zero_add,(Blk.new wr _ _).cell,<-hu,HB1.out,HB2.out];simp
   case r3=>intro u hu;simp at hu;rcases hu with rfl|rfl <;> rfl
   case r4=>omega
   case r5=>unfold maxLen;omega
   case r6=>omega
   intro v2 w2 xG hg2;have hX2:=(hX.alloc _).kept hg2 (by simp);have hR2:=(hR.alloc _).kept hg2 (by simp);have hb2:=Dr (hb.alloc hb.size _) hg2;have e:x.bytes.map B++[B b1,B b2]=(x.bytes++[b1,b2]).map B:=by simp
   rw[e]at xG;obtain⟨A2,c2,rfl⟩:=Av xG;have xO:Calls prog 50 #[.int .u8 33,.slice A2 (8+2) c2] w2 (BM w2 r):=CE 33 A2 c2 (x.bytes++[b1,b2]) r w2 (Rd.of_own xG) (by simp[Nm.bytes]) Hr2.out;have HC:=AA xO;clear xO e xG hg2 hX hR hb;go_wp2_with fail
   refine HC.out.mono ?_;rintro en w3 ⟨rfl,hb3⟩;have hX3:=hX2.below hb3 hX2.lt;have hR3:=hR2.below hb3 hR2.lt;have xJ:=hb2.trans (hb3.mono hb2.size);clear hX2 hR2 hb2 hb3 HC;go_wp2_with (refine AI rfl 24 (.tmp 4) (.tmp 25) rfl w.heap.size _ rfl rfl 24 _ hX3 rfl Ag ?s2 ?_)
   case s2=>exact⟨rfl,rfl,rfl,rfl,rfl,rfl,rfl,rfl⟩
   intro w4 hX4 hg4 hs4;have xE:ZN w w4:=xJ.grown hg4 xJ.size (by rintro j ⟨⟩;omega);have hR4:=hR3.kept hg4 (by simp);clear hX3 hR3 xJ hg4 hs4;go_wp2;go_roundw
   case rel=>exact⟨k+1,by omega,by go_num,by rw[<-Hr.out];exact hX4,hR4,xE⟩
   case measure=>simp[intOf];omega
  ·have hkq:q-p=k:=by omega
   have h1:k+p<=q:=by omega
   have h2:q<=k+p:=by omega
   have Hk:=AA hkq;clear hkq hlt hk;obtain⟨x,hx⟩:=ZH (Dl v c p k);rw[<-hx]at hX;have Hx:=AA hx;clear hx;have hDf:=hX.lt;go_wp2_with (first
    |(refine wpList_load_row rfl 24 _ rfl w.heap.size rfl 24 x.cells (0,0) _ hX underlying24 rfl Ag ?_)
    |(refine AI rfl 24 (.tmp 8) (.tmp 27) rfl (w.heap.size+1) _ rfl rfl 24 _ hR rfl Ag ?s3 ?_))
   case s3=>exact⟨rfl,rfl,rfl,rfl,rfl,rfl,rfl,rfl⟩
   intro w4 hR4 hg4 hs4;go_wp2;have xE:ZN w w4:=hb.grown hg4 hb.size (by rintro j ⟨⟩;omega);exact bodyPost_ret (results_cell_row (g:=w.heap.size+1) rfl _ _ _ _ _ _ rfl hR4 underlying24 rfl Ag) rfl ⟨by rw[Hk.out,<-Hx.out],xE⟩
theorem nmb(l:List Nm):l.flatMap nmc=(l.flatMap Nm.bytes).map B:=by
 induction l with
 |nil=>rfl
 |cons a r ih=>rw[List.flatMap_cons,List.flatMap_cons,Ae,ih];rfl
theorem RB(l:List Nm)(k:Nat)(x:Nm)(h:l[k]? =some x):(l.take (k+1)).flatMap Nm.bytes=(l.take k).flatMap Nm.bytes++x.bytes:=by
 obtain⟨hk,rfl⟩:=AE.1 h;rw[Fq l k hk,Af];simp
theorem Xt(l:List Nm):(l.flatMap Nm.bytes).length=8*l.length:=by
 induction l with
 |nil=>rfl
 |cons a r ih=>rw[List.flatMap_cons,AF,ih,Ah];simp[Nm.bytes];omega
theorem RC{w:World}{base e size n:Nat}{v:Value}{xs:List Value}(h:w.ownsRow base e size v n xs):v.ownBlock=none∨v.ownBlock≠some w.heap.size:=
 .inr fun hv=>by have:=(h.lt _ hv).2;omega
theorem Rd.name{w:World}{B':Nat}{A:Option Addr}{l:List Nm}(h:Rd w B' A (l.flatMap nmc)){k:Nat}{x:Nm}(hk:l[k]? =some x):∃b o,A=some ⟨b,o,none⟩/\b<B'/\∀j u,x.cells[j]? =some u->w.cell? ⟨b,o+k*8+j,none⟩=some u:=by
 have yF:=(AE.1 hk).1;obtain⟨b,o,rfl,hb,hc⟩:=h.cells (by
  intro e;have:=AY nmc 8 l (Cb l);rw[e]at this;simp at this;omega)
 refine⟨b,o,rfl,hb,fun j u hu=>?_⟩;have hj:j<8:=(Aa.1 hu).1;rw[Nat.add_assoc];refine hc _ u ?_;rw[B4 nmc 8 l (Cb l) k j x hk hj,<-hu];simp
theorem K4(A:Option Addr)(c:Nat)(l:List Nm)(w:World)(hr:Rd w w.heap.size A (l.flatMap nmc))(hlen:l.length<=1000):Calls prog 190 #[.slice A l.length c] w (BM w (WP l)):=by
 have hmk:∀W:World,(Instr.makeSlice 60 (.int .i64 0) (.int .i64 144)).run prog W= .ok (.slice (some ⟨W.heap.size,0,none⟩) 0 144) (W.alloc (.cells (Array.replicate 144 (.int .u8 0)) 5)):=fun W=>by kernel_rfl
 have HR:=AA hr;clear hr;obtain⟨hBU,hz⟩:=ZH (Array.replicate 144 (Value.int .u8 0));rw[<-hz]at hmk;have hzs:hBU.size=144:=by rw[hz];simp
 have Hz:=AA hzs;clear hz hzs;go_enter func190,ntmps190;go_wp2;clear hmk;have hR:Blk ((w.alloc (Obj.cells At 24)).alloc (Obj.cells hBU 5)) w.heap.size 24 At:=(Blk.new w _ _).alloc _;have xA:((w.alloc (Obj.cells At 24)).alloc (Obj.cells hBU 5)).ownsRow w.heap.size 5 1 (.slice (some ⟨w.heap.size+1,0,none⟩) 0 144) 0 (([]:List UInt8).map B):=by
  have h:=World.ownsRow_made (base:=w.heap.size) (e:=5) (size:=1) (w.alloc (Obj.cells At 24)) hBU 144 (by simp) (by unfold maxLen;omega) (by rw[Hz.out]);simpa using h
 have hbW:ZN w ((w.alloc (Obj.cells At 24)).alloc (Obj.cells hBU 5)):=((AC _ _).alloc (AB _) _).alloc (by simp) _;generalize ((w.alloc (Obj.cells At 24)).alloc (Obj.cells hBU 5))=W at*
 go_loopw [3,9] (fun v i wr=>∃k:Nat,k<=l.length/\i= .int .i64 k/\wr.ownsRow w.heap.size 5 1 v (8*k) (((l.take k).flatMap Nm.bytes).map B)/\Blk wr w.heap.size 24 At/\ZN w wr)
  (fun _ i _=>l.length-(intOf i).toNat)
 case atStart=>exact⟨0,by omega,rfl,xA,hR,hbW⟩
 case round=>
  clear xA hR hbW;obtain⟨k,hk,rfl,xA,hR,hb⟩:=hrel;by_cases hlt:k<l.length
  ·obtain⟨x,hx⟩:∃x,l[k]? =some x:=⟨_,AD hlt⟩;have e1:=RB l k x hx;have E1:=AA e1;clear e1;obtain⟨b,o,rfl,hbk,xH⟩:=Rd.name (HR.out.below hb) hx;generalize List.flatMap Nm.bytes (l.take k)=bs at*;have Hx:=AA hx;clear hx;have yz:=AA xH;clear xH;go_wp2_with (first
    |(refine BT rfl 24 _ rfl b (o+k*8) rfl x.cells _ yz.out underlying24 rfl Ag ?_)
    |(refine AI rfl 24 (.tmp 5) (.tmp 12) rfl wr.heap.size _ rfl rfl 24 _ (Blk.new wr _ _) rfl Ag ?s1 ?_))
   case s1=>exact⟨rfl,rfl,rfl,rfl,rfl,rfl,rfl,rfl⟩
   intro w2 hV2 hg2 hs2;have xG:=(xA.alloc _).kept hg2 (RC xA);have hR2:=(hR.alloc _).kept hg2 (by have:=hR.lt;simp;omega);have hb2:ZN w w2:=(hb.alloc hb.size _).grown hg2 (by have:=hb.size;simp;omega) (by rintro j ⟨⟩;exact hb.size);clear xA hR hb hg2;have hBY:=hV2.lt;clear hs2;go_wp2_with (at_builtin;refine Ar rfl (.tmp 13) (.tmp 14) _ rfl w.heap.size 5 (.int .u8 0) 1 1 underlying60 Bf rfl (by decide) _ (8*k) _ rfl xG w2.heap.size _ 8 8 (x.bytes.map B) rfl rfl ?r1 ?r2 ?r3 ?r4 ?r5 ?_)
   case r1=>
    have h:=Rd.of_blk hV2 0 8;simpa[Nm.bytes]using h
   case r2=>exact fun u hu=>Ba hu
   case r3=>omega
   case r4=>unfold maxLen;omega
   case r5=>exact hb2.size
   intro v3 w3 xD hg3 yb;have hb3:=BJ hb2 xG hg3;have hR3:=hR2.kept hg3 (CJ xG hR2 (by decide));clear xG hb2 hR2 hV2 hBY hg3 yb;go_wp2;go_roundw
   case rel=>exact⟨k+1,by omega,by go_num,by rw[E1.out,Ae];exact xD,hR3,hb3⟩
   case measure=>simp[intOf];omega
  ·obtain rfl:k=l.length:=by omega
   rw[AT (AB _)]at xA;obtain⟨r,hr⟩:=ZH (WP l);have hr2:Dh (34::l.flatMap Nm.bytes)=r:=hr.symm;have Hr:=AA hr;clear hr;have Hr2:=AA hr2;clear hr2;have hbl:=Xt l;obtain⟨A2,c2,rfl⟩:=Av xA;have xO:Calls prog 50 #[.int .u8 34,.slice A2 (8*l.length) c2] wr (BM wr r):=by
    rw[<-hbl];exact CE 34 A2 c2 (l.flatMap Nm.bytes) r wr (by rw[<-hbl]at xA;exact Rd.of_own xA) (by rw[hbl];omega) Hr2.out
   have HC:=AA xO;clear xO xA hbl;go_wp2_with fail
   refine HC.out.mono ?_;rintro en w3 ⟨rfl,hb3⟩;have hR3:=hR.below hb3 hR.lt;have xJ:=hb.trans (hb3.mono hb.size);clear hR hb hb3 HC;go_wp2_with (refine AI rfl 24 (.tmp 2) (.tmp 18) rfl w.heap.size _ rfl rfl 24 _ hR3 rfl Ag ?s2 ?_)
   case s2=>exact⟨rfl,rfl,rfl,rfl,rfl,rfl,rfl,rfl⟩
   intro w4 hR4 hg4 hs4;have xE:ZN w w4:=xJ.grown hg4 xJ.size (by rintro j ⟨⟩;omega);go_wp2;exact bodyPost_ret (results_cell_row (g:=w.heap.size) rfl _ _ _ _ _ _ rfl hR4 underlying24 rfl Ag) rfl ⟨by rw[<-Hr.out],xE⟩
theorem or8(v:Nat)(b:UInt8)(hv:v<72057594037927936):bits .or .u64 ((v:Int)*256) (b.toNat:Int)=(v:Int)*256+(b.toNat:Int):=by
 have h:=EJ v b hv;have hb:=b.toNat_lt;have e1:IntKind.u64.wrap ((v:Int)*256)=(v:Int)*256:=by rw[IntKind.wrap_u64];omega
 have e2:IntKind.u64.wrap (b.toNat:Int)=(b.toNat:Int):=by rw[IntKind.wrap_u64];omega
 rw[e1,e2]at h;rw[h];omega
theorem OT(A:Option Addr)(n c at_ k:Nat)(w:World)(hn:n<=140737488351232)(h:at_+k<=n):Calls prog 245 #[.slice A n c,.int .i64 (at_:Int),.int .i64 (k:Int)] w fun e w'=>e= .returned (.bool true)/\w=w':=by
 have d1:decide ((0:Int)<=(at_:Int))=true:=by simp
 have d2:decide (at_<=n)=true:=by simp;omega
 go_enter func245,ntmps245;go_wp2;go_ret;exact⟨Eb (by simp;omega),rfl⟩
theorem Pv(A:Option Addr)(n c at_ k:Nat)(w:World)(_hn:n<=140737488351232)(h:n<at_+k)(hk:k<=8)(_ha:at_<=1000000):Calls prog 245 #[.slice A n c,.int .i64 (at_:Int),.int .i64 (k:Int)] w fun e w'=>e= .returned (.bool false)/\w=w':=by
 have d1:decide ((0:Int)<=(at_:Int))=true:=by simp
 by_cases h2:at_<=n
 ·have d2:decide (at_<=n)=true:=by simp;omega
  go_enter func245,ntmps245;go_wp2;go_ret;exact⟨Eb (by simp;omega),rfl⟩
 ·have d2:decide (at_<=n)=false:=by simp;omega
  go_enter func245,ntmps245;go_wp2;go_ret;exact⟨rfl,rfl⟩
theorem SL(l:List UInt8)(k:Nat):Cf (l.take k)<256^k:=by
 refine Nat.lt_of_lt_of_le (J8 _) (Nat.pow_le_pow_right (by omega) ?_);simp;omega
theorem Ym(k:Nat)(h:k<8):256^k<=72057594037927936:=by
 show 256^k<=256^7;exact Nat.pow_le_pow_right (by omega) (by omega)
theorem OU(A:Option Addr)(c at_ k:Nat)(l:List UInt8)(w:World)(hr:Rd w w.heap.size A (l.map B))(hlen:l.length<=140737488351232)(hc:l.length<=c)(hm:c<=maxLen)(hk:1<=k)(hk8:k<=8)(h:at_+k<=l.length):Calls prog 201 #[.slice A l.length c,.int .i64 (at_:Int),.int .i64 (k:Int)] w fun e w'=>e= .returned (.tuple #[.int .u64 (Cf ((l.drop at_).take k):Int),.bool true])/\w'=w:=by
 obtain⟨b,o,rfl,hb,xH⟩:=hr.cells (by intro e;rw[List.map_eq_nil_iff]at e;subst e;simp at h;omega);have yz:=AA xH;clear xH;unfold maxLen at hm;have HF:=AA (fun W=>OT (some ⟨b,o,none⟩) l.length c at_ k W hlen h);have hne:¬c=at_:=by omega
 go_enter func201,ntmps201;go_wp2_with ((go_at_call 245;refine(HF.out _).mono ?_;rintro en w' ⟨rfl,rfl⟩))
 go_loop [8,31] (fun v i=>∃j:Nat,j<=k/\i= .int .i64 j/\v= .int .u64 (Cf ((l.drop at_).take j):Int)) (fun _ i=>k-(intOf i).toNat)
 case atStart=>exact⟨0,by omega,rfl,rfl⟩
 case round=>
  obtain⟨j,hj,rfl,rfl⟩:=hrel;by_cases hlt:j<k
  ·have hjl:j<(l.drop at_).length:=by simp;omega
   have e1:=Fq (l.drop at_) j hjl;have e2:Cf ((l.drop at_).take (j+1))=Cf ((l.drop at_).take j)*256+(l.drop at_)[j].toNat:=by rw[e1,RT]
   have E2:=AA e2;clear e1 e2;have hv:=Nat.lt_of_lt_of_le (SL (l.drop at_) j) (Ym j (by omega));have hx:(l.map B)[at_+j]? =some (B (l.drop at_)[j]):=by
    rw[AQ,<-List.getElem?_drop,AD hjl];rfl
   have hcl:=yz.out _ _ hx;rw[<-Nat.add_assoc]at hcl;clear hx;generalize (l.drop at_)[j]=bb at*;generalize Cf ((l.drop at_).take j)=v at*;have hor:=or8 v bb hv;have hb8:=bb.toNat_lt;go_wp2
   go_round
   case rel=>exact⟨j+1,by omega,by go_num,by rw[E2.out];go_num⟩
   case measure=>simp[intOf];omega
  ·obtain rfl:j=k:=by omega
   obtain⟨v,hv⟩:=ZH (Cf ((l.drop at_).take j));rw[<-hv];have Hv:=AA hv;clear hv;go_wp2;go_ret2;exact⟨by rw[<-Hv.out];rfl,rfl⟩
theorem WQ(A:Option Addr)(n c at_ k:Nat)(w:World)(hlen:n<=140737488351232)(hk:1<=k)(hk8:k<=8)(h:n<at_+k)(ha:at_<=1000000):Calls prog 201 #[.slice A n c,.int .i64 (at_:Int),.int .i64 (k:Int)] w fun e w'=>e= .returned (.tuple #[.int .u64 0,.bool false])/\w'=w:=by
 have HF:=AA (fun W=>Pv A n c at_ k W hlen h hk8 ha);go_enter func201,ntmps201;go_wp2_with ((go_at_call 245;refine(HF.out _).mono ?_;rintro en w' ⟨rfl,rfl⟩))
 go_ret2;exact⟨rfl,rfl⟩
theorem Yn(l:List UInt8)(h:2<=l.length):Cf ((l.drop 0).take 2)=Cv l:=by
 match l,h with
 |a::b::r,_=>simp[Cf,Cv]
theorem UM(l:List UInt8):Cv l<65536:=by
 have h1:=(l.getD 0 0).toNat_lt;have h2:=(l.getD 1 0).toNat_lt;unfold Cv;omega
theorem UN(A:Option Addr)(c:Nat)(l:List UInt8)(w:World)(hr:Rd w w.heap.size A (l.map B))(hlen:l.length<=140737488351232)(hc:l.length<=c)(hm:c<=maxLen)(h:2<=l.length):Calls prog 202 #[.slice A l.length c] w fun e w'=>e= .returned (.tuple #[.int .i64 (Cv l:Int),.bool true])/\w'=w:=by
 have hu:=OU A c 0 2 l w hr hlen hc hm (by omega) (by omega) (by omega);rw[Yn l h]at hu;have HU:=AA hu;clear hu;have hl:=UM l;clear hr;generalize Cv l=v at*;go_enter func202,ntmps202;go_wp2_with fail
 refine HU.out.mono ?_;rintro en w' ⟨rfl,rfl⟩;go_wp2;go_ret2;exact⟨rfl,rfl⟩
theorem WR(A:Option Addr)(n c:Nat)(w:World)(h:n<2):Calls prog 202 #[.slice A n c] w fun e w'=>e= .returned (.tuple #[.int .i64 0,.bool false])/\w'=w:=by
 have HU:=AA (WQ A n c 0 2 w (by omega) (by omega) (by omega) (by omega) (by omega));go_enter func202,ntmps202;go_wp2_with fail
 refine HU.out.mono ?_;rintro en w' ⟨rfl,rfl⟩;go_wp2;go_ret2;exact⟨rfl,rfl⟩
def BK(w:World)(g n:Nat)(l:List Nm):Prop:=∃cur:List Value,Blk w g 24 cur.toArray/\cur.length=8*n/\cur.take (8*l.length)=l.flatMap nmc
section
variable {w w':World}{g n:Nat}{l:List Nm}
theorem BK.lt(h:BK w g n l):g<w.heap.size:=by obtain⟨cur,hB,_⟩:=h;exact hB.lt
theorem BK.drew(h:BK w g n l):BK w.drew g n l:=h
theorem BK.alloc(h:BK w g n l)(o:Obj):BK (w.alloc o) g n l:=by obtain⟨cur,hB,r⟩:=h;exact⟨cur,hB.alloc o,r⟩
theorem BK.below{B':Nat}(h:BK w g n l)(hb:Below B' w w')(hg:g<B'):BK w' g n l:=by obtain⟨cur,hB,r⟩:=h;exact⟨cur,hB.below hb hg,r⟩
theorem BK.kept{row:Option Nat}(h:BK w g n l)(hb:w.grownBy w' row)(hg:some g≠row):BK w' g n l:=by obtain⟨cur,hB,r⟩:=h;exact⟨cur,hB.kept hb hg,r⟩
theorem BK.rd(h:BK w g n l):Rd w w.heap.size (some ⟨g,0,none⟩) (l.flatMap nmc):=by
 obtain⟨cur,hB,_,ht⟩:=h;have:=Rd.of_blk hB 0 (8*l.length);rw[List.drop_zero]at this;simp only at this;rw[ht]at this;exact this
end
theorem Ir(cur:List Value)(n:Nat)(l:List Nm)(x:Nm)(hl:cur.length=8*n)(ht:cur.take (8*l.length)=l.flatMap nmc)(hn:l.length<n):(splice cur (l.length*8) (nmc x)).length=8*n/\(splice cur (l.length*8) (nmc x)).take (8*(l++[x]).length)=(l++[x]).flatMap nmc:=by
 have h8:(nmc x).length=8:=rfl;have e:l.length*8=8*l.length:=Nat.mul_comm _ _;refine⟨by rw[length_splice _ _ _ (by rw[h8];omega)];exact hl,?_⟩;unfold splice;rw[e,ht,Af,<-List.append_assoc,List.take_append_of_le_length (by
  rw[AF,AF,AY nmc 8 l (Cb l),h8];simp;omega),AT (by
  rw[AF,AF,AY nmc 8 l (Cb l),h8];simp;omega)]
 simp
theorem BK.zero(w:World)(cs:Array Value)(n:Nat)(h:cs.size=8*n):BK (w.alloc (.cells cs 24)) w.heap.size n []:=
 ⟨cs.toList,by simpa using Blk.new w 24 cs,by simpa using h,by simp⟩
theorem Is(g:Nat)(t:TypeId):∀(vs:List Value) (o:Nat) (w:World) (cur:List Value),Blk w g t cur.toArray->o+vs.length<=cur.length->
  Blk (w.setCells g o vs) g t (splice cur o vs).toArray
 |[],o,w,cur,h,_=>by simpa[World.setCells,splice]using h
 |v::r,o,w,cur,h,hl=>by
  rw[World.setCells];have hl':o+(r.length+1)<=cur.length:=by simpa using hl
  have h1:=h.put o v;have e:cur.toArray.setIfInBounds o v=(cur.set o v).toArray:=by simp
  rw[e]at h1;have h2:=Is g t r (o+1) (w.setCell ⟨g,o,none⟩ v) (cur.set o v) h1 (by simp;omega);have e2:splice (cur.set o v) (o+1) r=splice cur o (v::r):=by
   unfold splice;rw[List.take_set,List.drop_set,if_pos (by omega),Ah,show o+(r.length+1)=o+1+r.length from by omega];rw[Fq cur o (by omega),List.set_append_right _ _ (by simp;omega)];simp[Nat.min_eq_left (show o<=cur.length by omega)]
  rw[<-e2];exact h2
theorem K5{w:World}{g n:Nat}{l:List Nm}(x:Nm)(h:BK w g n l)(hn:l.length<n):BK (w.setCells g (l.length*8) (nmc x)) g n (l++[x]):=by
 obtain⟨cur,hB,hl,ht⟩:=h;obtain⟨h1,h2⟩:=Ir cur n l x hl ht hn;exact⟨_,Is g _ (nmc x) _ w cur hB (by rw[show(nmc x).length=8 from rfl];omega),h1,h2⟩
theorem Cw{P:Program}{ops:Array Oper}{rest:List Oper}{op:Oper}{a:Act}{w:World}{Q:Exit->Act->World->Prop}(hgd:op.guard=none)(ty:TypeId)(x y:Operand)(ho:op.op= .store ty x y)(g n k:Nat)(l:List Nm)(nm:Nm)(hx:a.eval x= .pointer (some ⟨g,k*8,none⟩))(hy:a.eval y=nm.val)(hB:BK w g n l)(hk:l.length=k)(hn:k<n)(hi:(P.info? ty).map (·.size)=some 8)(h:∀w',BK w' g n (l++[nm])->w.grownBy w' (some g)->w'.heap.size=w.heap.size->wpList P ops Q rest (a.put op.dst undef) w'):wpList P ops Q (op::rest) a w:=by
 subst hk;obtain⟨cur,hC,hl,ht⟩:=hB;have hth:w.there g (l.length*8) 8:=fun j hj=>⟨by
  rw[hC.cell,Array.getElem?_eq_getElem (by simp;omega)];rfl,hC.frozen _⟩
 refine wpList_store_mid hgd ty x y ho g (l.length*8) nm.cells hx hy hth hi (Array.all_eq_true_iff_forall_mem.2 fun v hv=>Ba (l:=nm.bytes) (by simpa[Nm.bytes]using hv)) ?_;obtain⟨_,h4,h5⟩:=C1 g 24 nm.cells.toList (l.length*8) w _ hC;exact h _ (K5 nm ⟨cur,hC,hl,ht⟩ hn) h4 h5
theorem It(l:List UInt8)(h:8<=l.length):nmc (Nm.ofList l)=(l.take 8).map B:=by
 obtain⟨b0,b1,b2,b3,b4,b5,b6,b7,r,rfl⟩:=Wl h;simp[Nm.ofList]
theorem DB:(prog.info? 24).map (fun i=>(i.zero,i.size,i.bytes))=some (some (Nm.val ⟨0,0,0,0,0,0,0,0⟩),8,8):=by kernel_rfl
theorem OV(l:List UInt8)(at_ k:Nat):B9 l at_ (k+1)=B9 l at_ k++[JM l (at_+8*k)]:=by
 simp[B9,List.range_succ]
theorem IE(l:List UInt8)(at_ k:Nat):(B9 l at_ k).length=k:=by simp[B9]
def FZ(w:World)(n:Nat)(l:List Nm)(e:Ending)(w':World):Prop:=∃g,e= .returned (.slice (some ⟨g,0,none⟩) n n)/\BK w' g n l/\ZN w w'
theorem MM(A:Option Addr)(c at_ n:Nat)(l:List UInt8)(w:World)(hr:Rd w w.heap.size A (l.map B))(hlen:l.length<=1000000)(hc:l.length<=c)(hm:c<=maxLen)(hn1:1<=n)(hn:n<=32)(h:at_+8*n<=l.length):Calls prog 247 #[.slice A l.length c,.int .i64 (at_:Int),.int .i64 (n:Int)] w (FZ w n (B9 l at_ n)):=by
 obtain⟨b,o,rfl,hb,xH⟩:=hr.cells (by intro e;rw[List.map_eq_nil_iff]at e;subst e;simp at h;omega);have yz:=AA xH;clear xH;unfold maxLen at hm;obtain⟨i0,hi,hz0,hz1,hz2⟩:=info_parts DB;obtain⟨Z,hZ⟩:=ZH (madeCells (Value.cells (Nm.val ⟨0,0,0,0,0,0,0,0⟩)) (n*8));have hmk:∀W:World,(Instr.makeSlice 75 (.int .i64 (n:Int)) (.int .i64 (n:Int))).run prog W= .ok (.slice (some ⟨W.heap.size,0,none⟩) n n) (W.alloc (.cells Z 24)):=fun W=>by
  have:=run_make (P:=prog) W 75 24 i0 _ underlying75 hi hz0 .i64 .i64 n n (by omega) (by omega) (by rw[hz2];omega) (by omega);rw[this,hz1];simp only[Int.toNat_natCast,hZ]
 have hZs:Z.size=8*n:=by rw[hZ,size_madeCells];omega
 have HZ:=AA hZs;clear hZ hZs hi hz0 hz1 hz2;go_enter func247,ntmps247;go_wp2;clear hmk;have hN:BK (w.alloc (.cells Z 24)) w.heap.size n []:=BK.zero w Z n HZ.out;have hbW:ZN w (w.alloc (.cells Z 24)):=(AC _ _).alloc (AB _) _;generalize w.alloc (.cells Z 24)=W at*
 go_loopw [13] (fun i wr=>∃k:Nat,k<=n/\i= .int .i64 k/\BK wr w.heap.size n (B9 l at_ k)/\ZN w wr)
  (fun i _=>n-(intOf i).toNat)
 case atStart=>exact⟨0,by omega,rfl,hN,hbW⟩
 case round=>
  clear hN hbW;obtain⟨k,hk,rfl,hN,hbw⟩:=hrel;by_cases hlt:k<n
  ·have e1:=OV l at_ k;have E1:=AA e1;clear e1;have e2:=IE l at_ k;have E2:=AA e2;clear e2;have e3:nmc (JM l (at_+8*k))=((l.drop (at_+8*k)).take 8).map B:=It _ (by simp;omega);have E3:=AA e3;clear e3;generalize JM l (at_+8*k)=x at*;generalize B9 l at_ k=nl at*;have i1:(0:Int)<=(k:Int):=by omega
   have i2:(k:Int)<(n:Int):=by omega
   have hw1:IntKind.i64.wrap ((k:Int)*8)=(k:Int)*8:=BI _ (by omega);have hw2:IntKind.i64.wrap ((at_:Int)+(k:Int)*8)=(at_:Int)+(k:Int)*8:=BI _ (by omega);have i3:(0:Int)<=(at_:Int)+(k:Int)*8:=by omega
   have i4:(at_:Int)+(k:Int)*8<=(l.length:Int):=by omega
   have i5:((at_:Int)+(k:Int)*8).toNat=at_+k*8:=by omega
   have i6:¬c=at_+k*8:=by omega
   have i7:(l.length:Int)<=(c:Int):=by omega
   have hDh:=hN.lt;go_wp2;refine wp_region_still_tail 10 (by kernel_rfl) (by kernel_rfl) ?_;simp only[List.take_succ_cons,List.take_zero,List.drop_succ_cons,List.drop_zero]
   iterate 10 still_step
   refine wpStill_nil ?_;change wpList _ _ _ _ _ wr.drew;replace hN:=hN.drew;replace hbw:=hbw.drew;clear hw1 hw2 i3 i4 i5 i7;generalize wr.drew=w1 at*;obtain⟨cur,hC,hl,ht⟩:=hN;have Hl:=AA hl;clear hl;have Ht:=AA ht;clear ht;refine wpList_copy_splice rfl (.tmp 19) (.tmp 25) _ _ rfl 5 underlying60 (by kernel_rfl) _ _ _ _ _ _ rfl rfl w.heap.size (k*8) cur 24 hC (nmc x) ?c1 ?c2 ?c3 ?c4 w.heap.size w hbw (AB _) ?_
   case c1=>exact(Nat.min_eq_right (show 8<=l.length-(at_+k*8)by omega)).symm
   case c2=>
    intro _;refine⟨rfl,_,rfl,fun j v hv=>?_⟩;rw[Addr.add_mid,hbw.cell (p:=⟨b,o+(at_+k*8)+j,none⟩) hb,show o+(at_+k*8)+j=o+(at_+8*k+j)from by omega];refine yz.out _ v ?_;rw[E3.out,List.map_take,BP]at hv;split at hv
    ·rw[<-hv,List.map_drop,List.getElem?_drop]
    ·cases hv
   case c3=>have:=Hl.out;show k*8+8<=_;omega
   case c4=>exact fun u hu=>Ba (l:=x.bytes) (by simpa[Nm.bytes]using hu)
   intro w2 hg2 hb2;have hs:=Ir cur n nl x Hl.out Ht.out (by rw[E2.out];exact hlt);have hN2:BK w2 w.heap.size n (nl++[x]):=⟨_,by rw[E2.out];exact hg2.out,hs⟩;clear hs hg2 hC hbw;go_frame;go_wp2;go_roundw
   case rel=>exact⟨k+1,by omega,by go_num,by rw[E1.out];exact hN2,hb2⟩
   case measure=>simp[intOf];omega
  ·obtain rfl:k=n:=by omega
   obtain⟨nl,hnl⟩:=ZH (B9 l at_ k);rw[<-hnl]at hN;have Hnl:=AA hnl;clear hnl;go_wp2;go_ret;exact⟨w.heap.size,rfl,by rw[<-Hnl.out];exact hN,hbw⟩
theorem OW:(prog.info? 3).map (fun i=>(i.zero,i.size,i.bytes))=some (some (.int .i64 0),1,8):=by kernel_rfl
theorem ixn(n:Nm)(k:Nat)(hk:k<n.bytes.length)(w:World):(Instr.index 24 n.val (.int .i64 (k:Int))).run prog w= .ok (B n.bytes[k]) w:=by
 have h8:k<8:=hk;rcases(by omega:k=0∨k=1∨k=2∨k=3∨k=4∨k=5∨k=6∨k=7)with rfl|rfl|rfl|rfl|rfl|rfl|rfl|rfl
 ·exact ix0 _ _ _ _ _ _ _ _ w
 ·exact ix1 _ _ _ _ _ _ _ _ w
 ·exact ix2 _ _ _ _ _ _ _ _ w
 ·exact ix3 _ _ _ _ _ _ _ _ w
 ·exact ix4 _ _ _ _ _ _ _ _ w
 ·exact ix5 _ _ _ _ _ _ _ _ w
 ·exact ix6 _ _ _ _ _ _ _ _ w
 ·exact ix7 _ _ _ _ _ _ _ _ w
theorem UO(b:UInt8):bits .and .u8 (b.toNat:Int) 15=((b.toNat%16:Nat):Int):=by
 have hb:=b.toNat_lt;show IntKind.u8.wrap ((BitVec.ofInt 8 (b.toNat:Int)&&& BitVec.ofInt 8 15).toNat:Int)=_;rw[BitVec.toNat_and,BitVec.ofInt_natCast,BitVec.toNat_ofNat,Nat.mod_eq_of_lt (by omega),show(BitVec.ofInt 8 15).toNat=2^4-1 from rfl,Nat.and_two_pow_sub_one_eq_mod,IntKind.wrap_u8];omega
theorem SM(n:Nat)(hn:n<=1000000):bits .and .i64 (n:Int) 15=((n%16:Nat):Int):=by
 show IntKind.i64.wrap ((BitVec.ofInt 64 (n:Int)&&& BitVec.ofInt 64 15).toNat:Int)=_;rw[BitVec.toNat_and,BitVec.ofInt_natCast,BitVec.toNat_ofNat,Nat.mod_eq_of_lt (by omega),show(BitVec.ofInt 64 15).toNat=2^4-1 from rfl,Nat.and_two_pow_sub_one_eq_mod,IntKind.wrap_i64];omega
theorem K6(m:Nm)(w:World):Calls prog 256 #[m.val] w (Ca w 3 1 18 ((Dq m).map N)):=by
 have hmk:∀W:World,(Instr.makeSlice 114 (.int .i64 0) (.int .i64 18)).run prog W= .ok (.slice (some ⟨W.heap.size,0,none⟩) 0 18) (W.alloc (.cells (Array.replicate 18 (.int .i64 0)) 3)):=fun W=>by kernel_rfl
 go_enter func256,ntmps256;go_wp2_with (refine wpList_load_row rfl 24 _ rfl w.heap.size rfl 24 m.cells (0,0) _ ((Blk.new w _ _).alloc _) underlying24 rfl Ag ?_)
 clear hmk
 go_loopw [3,4,11] (fun v r i wr=>∃k:Nat,k<=8/\i= .int .i64 k/\r= .int .i64 ((240-Iq (m.bytes.take k):Nat):Int)/\wr.ownsRow w.heap.size 3 1 v (2*k) ((Ip (m.bytes.take k)).map N)/\ZN w wr)
  (fun _ _ i _=>8-(intOf i).toNat)
 case atStart=>
  refine⟨0,by omega,rfl,rfl,?_,?_⟩
  ·have h:=World.ownsRow_made (base:=w.heap.size) (e:=3) (size:=1) (w.alloc (.cells m.cells 24)) (Array.replicate 18 (.int .i64 0)) 18 (by simp) (by unfold maxLen;omega) (by simp);simpa[Ip]using h
  ·exact((AC _ _).alloc (AB _) _).alloc (by simp) _
 case round=>
  obtain⟨k,hk,rfl,rfl,xA,hb⟩:=hrel;have hS:Iq (m.bytes.take k)<=30*(m.bytes.take k).length:=M4 _;have hl:(m.bytes.take k).length<=k:=List.length_take_le _ _;by_cases hlt:k<8
  ·have hk8:k<m.bytes.length:=hlt;have hix:=ixn m k hk8;simp only[Nm.val]at hix;have e1:=Fq m.bytes k hk8;have e2:=SK (m.bytes.take k) m.bytes[k];have e3:=SJ (m.bytes.take k) m.bytes[k];rw[<-e1]at e2 e3;have E2:=AA e2;have E3:=AA e3;clear e1 e2 e3;generalize m.bytes[k]=b at*;generalize m.bytes.take k=tk at*;have hb8:=b.toNat_lt;have h15:=UO b;have h15':bits .and .u8 (b.toNat:Int) 15=(b.toNat:Int)%16:=by rw[h15];omega
   clear h15;obtain⟨S,hSe⟩:=ZH (Iq tk);rw[<-hSe]at hS;rw[<-hSe]at E2;rw[<-hSe];clear hSe;go_wp2_with (at_builtin;refine Ar rfl (.tmp 20) (.tmp 23) _ rfl w.heap.size 3 (.int .i64 0) 1 8 underlying114 OW rfl (by decide) _ (2*k) _ rfl (xA.alloc _) (wr.heap.size+1) _ 2 2 [N (b.toNat/16),N (b.toNat%16)] rfl rfl ?r1 ?r2 ?r3 ?r4 ?r5 ?_)
   case r1=>
    have h:=Rd.of_blk (Blk.new wr 3 #[N (b.toNat/16),N (b.toNat%16)]) 0 2;simpa[N]using h
   case r2=>intro u hu;simp at hu;rcases hu with rfl|rfl <;> rfl
   case r3=>omega
   case r4=>unfold maxLen;omega
   case r5=>have:=hb.size;simp;omega
   intro v2 w2 xG hg2 zO;have hb2:ZN w w2:=BJ (hb.alloc hb.size _) (xA.alloc _) hg2;clear zO hg2 xA hix;go_wp2;go_roundw
   case rel=>
    refine⟨k+1,by omega,by go_num,?_,?_,hb2⟩
    ·rw[E2.out];go_num
    ·rw[E3.out,Ae];exact xG
   case measure=>simp[intOf];omega
  ·obtain rfl:k=8:=by omega
   have hbb:m.bytes.take 8=m.bytes:=rfl;rw[hbb]at xA hS hl;rw[hbb];clear hbb;have e0:Dq m=Ip m.bytes++[(240-Iq m.bytes)/16,(240-Iq m.bytes)%16]:=rfl;have E0:=AA e0;clear e0;generalize Ip m.bytes=dl at*;obtain⟨S,hSe⟩:=ZH (240-Iq m.bytes);rw[<-hSe]at E0;rw[<-hSe];have hS2:S<=240:=by omega
   have h15:bits .and .i64 (S:Int) 15=(S:Int)%16:=by rw[SM S (by omega)];omega
   clear hS hl hSe;go_wp2_with (at_builtin;refine Ar rfl (.tmp 31) (.tmp 36) _ rfl w.heap.size 3 (.int .i64 0) 1 8 underlying114 OW rfl (by decide) _ (2*8) _ rfl (xA.alloc _) (wr.heap.size+1) _ 2 2 [N (S/16),N (S%16)] rfl rfl ?q1 ?q2 ?q3 ?q4 ?q5 ?_)
   case q1=>
    have h:=Rd.of_blk (Blk.new wr 3 #[N (S/16),N (S%16)]) 0 2;simpa[N]using h
   case q2=>intro u hu;simp at hu;rcases hu with rfl|rfl <;> rfl
   case q3=>omega
   case q4=>unfold maxLen;omega
   case q5=>have:=hb.size;simp;omega
   intro v2 w2 xG hg2 zO;have hb2:ZN w w2:=BJ (hb.alloc hb.size _) (xA.alloc _) hg2;clear zO hg2 xA;go_wp2;go_ret;obtain⟨A2,c2,rfl⟩:=Av xG;refine⟨A2,c2,rfl,?_,hb2⟩;rw[E0.out,Ae];exact xG
theorem Pw(m:Nm)(sig:List Nm)(k:Nat):(List.range (k+1)).map (K0 m sig)=(List.range k).map (K0 m sig)++[K0 m sig k]:=by
 simp[List.range_succ]
theorem EU{α:Type}{l:List α}{k:Nat}(d:α)(h:k<l.length):l[k]? =some (l.getD k d):=by
 rw[List.getD_eq_getElem?_getD,AD h];rfl
theorem OX(m:Nm)(sig:List Nm)(A:Option Addr)(c:Nat)(w:World)(hr:Rd w w.heap.size A (sig.flatMap nmc))(h18:sig.length=18):Calls prog 246 #[m.val,.slice A 18 c] w fun e w'=>e= .returned (.tuple #[(OS m sig).val,.bool true])/\ZN w w':=by
 have HR:=AA hr;clear hr;have H18:=AA h18;clear h18;obtain⟨Z,hZ⟩:=ZH (Array.replicate 144 (Value.int .u8 0));have hmk:∀W:World,(Instr.makeSlice 75 (.int .i64 18) (.int .i64 18)).run prog W= .ok (.slice (some ⟨W.heap.size,0,none⟩) 18 18) (W.alloc (.cells Z 24)):=fun W=>by rw[hZ];kernel_rfl
 have HZ:Hid (Z.size=8*18):=by rw[hZ];exact Array.size_replicate
 clear hZ;go_enter func246,ntmps246;go_wp2_with (refine wpList_load_row rfl 24 _ rfl w.heap.size rfl 24 m.cells (0,0) _ (((Blk.new w _ _).alloc _).alloc _) underlying24 rfl Ag ?_)
 clear hmk;have hR:Blk (((w.alloc (Obj.cells m.cells 24)).alloc (Obj.cells At 24)).alloc (Obj.cells Z 24)) (w.heap.size+1) 24 At:=by
  have:=(Blk.new (w.alloc (Obj.cells m.cells 24)) 24 At).alloc (Obj.cells Z 24);simpa using this
 have hN:BK (((w.alloc (Obj.cells m.cells 24)).alloc (Obj.cells At 24)).alloc (Obj.cells Z 24)) (w.heap.size+1+1) 18 []:=by
  have:=BK.zero ((w.alloc (Obj.cells m.cells 24)).alloc (Obj.cells At 24)) Z 18 HZ.out;simpa using this
 have hbW:ZN w (((w.alloc (Obj.cells m.cells 24)).alloc (Obj.cells At 24)).alloc (Obj.cells Z 24)):=(((AC _ _).alloc (AB _) _).alloc (by simp) _).alloc (by simp;omega) _;generalize (((w.alloc (Obj.cells m.cells 24)).alloc (Obj.cells At 24)).alloc (Obj.cells Z 24))=W at*;refine(K6 m W).mono ?_;rintro en w1 ⟨A1,c1,rfl,xA,hb1⟩;replace hR:=hR.below hb1 hR.lt;replace hN:=hN.below hb1 hN.lt;replace xA:=BE xA hbW.size;replace hbW:=hbW.trans (hb1.mono hbW.size);clear hb1 HZ;have hdl:=FC m;have hCJ:=JL m;obtain⟨gd,od,rfl,_,_⟩:=(Rd.of_own xA).cells (by intro e;rw[List.map_eq_nil_iff]at e;rw[e]at hdl;simp at hdl);obtain⟨ds,hds⟩:=ZH (Dq m);rw[<-hds]at xA hdl hCJ;have Hds:=AA hds;clear hds;have Hdl:=AA hdl;clear hdl;have hFk:=AA hCJ;clear hCJ;go_wp2_with fail
 go_loopw [17] (fun i wr=>∃k:Nat,k<=18/\i= .int .i64 k/\BK wr (w.heap.size+1+1) 18 ((List.range k).map (K0 m sig))/\Blk wr (w.heap.size+1) 24 At/\wr.ownsRow w.heap.size 3 1 (.slice (some ⟨gd,od,none⟩) 18 c1) 18 (ds.map N)/\ZN w wr)
  (fun i _=>18-(intOf i).toNat)
 case atStart=>exact⟨0,by omega,rfl,hN,hR,xA,hbW⟩
 case round=>
  clear hN hR xA hbW;obtain⟨k,hk,rfl,hN,hR,xA,hb⟩:=hrel;by_cases hlt:k<18
  ·have e1:=Pw m sig k;have E1:=AA e1;clear e1;have E2:Hid (((List.range k).map (K0 m sig)).length=k):=by show _=_;simp
   generalize (List.range k).map (K0 m sig)=nl at*;have hx:=EU Nm.zero (l:=sig) (k:=k) (by rw[H18.out];exact hlt);have hdk:=EU 0 (l:=ds) (k:=k) (by rw[Hdl.out];exact hlt);have hIL:=hFk.out _ (AM hdk);have e3:K0 m sig k=Dl (sig.getD k Nm.zero) k (ds.getD k 0) (15-ds.getD k 0):=by rw[Hds.out];rfl
   have E3:=AA e3;clear e3;generalize K0 m sig k=y at*;generalize sig.getD k Nm.zero=x at*;generalize ds.getD k 0=d at*;obtain⟨b,o,rfl,hbk,xH⟩:=Rd.name (HR.out.below hb) hx;have yz:=AA xH;clear xH;have hdc:wr.cell? ⟨gd,od+k,none⟩=some (N d):=by
    obtain⟨gd',od',he,_,hc⟩:=(Rd.of_own xA).cells (by intro e;rw[e]at xA;have:=xA.1;simp at this);injection he with he
    injection he with h1 h2
    subst h1;subst h2;exact hc k _ (by rw[AQ,hdk];rfl)
   clear hx hdk;have HW:Hid (∀W,Calls prog 188 #[x.val,.int .i64 (k:Int),.int .i64 (d:Int),.int .i64 15] W (BM W y)):=fun W=>by
    rw[E3.out];exact K3 x k d 15 W (by omega) hIL (by omega)
   go_wp2_with (first
    |(refine BT rfl 24 _ rfl b (o+k*8) rfl x.cells _ yz.out underlying24 rfl Ag ?_)
    |fail)
   refine(HW.out wr).mono ?_;rintro en w2 ⟨rfl,hb2⟩;have hN2:=hN.below hb2 hN.lt;have hR2:=hR.below hb2 hR.lt;have xG:=Ay xA hb2 (AB _);have xB:=hb.trans (hb2.mono hb.size);clear hN hR xA hb hb2 hdc HW;go_wp2_with (refine Cw rfl 24 (.tmp 31) (.tmp 30) rfl (w.heap.size+1+1) 18 k nl y rfl rfl hN2 E2.out hlt Ag ?_)
   intro w3 hN3 hg3 hs3;have hR3:=hR2.kept hg3 (by simp);have xD:=xG.kept hg3 (by
    obtain⟨cur,hC,_⟩:=hN2;exact .inr fun e=>CJ xG hC (by decide) e.symm)
   have xJ:ZN w w3:=xB.grown hg3 xB.size (by rintro j ⟨⟩;omega);clear hN2 hR2 xG xB hg3 hs3;go_wp2;go_roundw
   case rel=>exact⟨k+1,by omega,by go_num,by rw[E1.out];exact hN3,hR3,xD,xJ⟩
   case measure=>simp[intOf];omega
  ·obtain rfl:k=18:=by omega
   obtain⟨r,hr⟩:=ZH (OS m sig);have Hr:=AA hr;have xO:Calls prog 190 #[.slice (some ⟨w.heap.size+1+1,0,none⟩) 18 18] wr (BM wr r):=by
    have h:=K4 (some ⟨w.heap.size+1+1,0,none⟩) 18 ((List.range 18).map (K0 m sig)) wr hN.rd (by simp);rw[AX,List.length_range]at h;rw[hr];exact h
   have HC:=AA xO;clear xO hr hN xA;go_wp2_with fail
   refine HC.out.mono ?_;rintro en w3 ⟨rfl,hb3⟩;have hR3:=hR.below hb3 hR.lt;have xJ:=hb.trans (hb3.mono hb.size);clear hR hb hb3 HC;go_wp2_with (refine AI rfl 24 (.tmp 4) (.tmp 34) rfl (w.heap.size+1) _ rfl rfl 24 _ hR3 rfl Ag ?s2 ?_)
   case s2=>exact⟨rfl,rfl,rfl,rfl,rfl,rfl,rfl,rfl⟩
   intro w4 hR4 hg4 hs4;have xE:ZN w w4:=xJ.grown hg4 xJ.size (by rintro j ⟨⟩;omega);go_wp2;exact bodyPost_ret (AW (g:=w.heap.size+1) (cs:=r.cells) rfl _ _ _ _ _ rfl hR4 underlying24 rfl Ag) rfl ⟨by rw[<-Hr.out];rfl,xE⟩
end
section
open Go.RowKit
attribute [local go_sem ↓] Go.wp_at_zero Go.wp_at_succ
theorem Fa{u:Value}{l:List Nm}(h:u∈l.flatMap nmc):u.oneCell'=true:=by
 rw[nmb]at h;exact Ba h
theorem WS{w:World}{base e size n g o c:Nat}{xs:List Value}(h:w.ownsRow base e size (.slice (some ⟨g,o,none⟩) n c) n xs):∃cur,Blk w g e cur:=by
 rcases h.2 with⟨hv,_⟩|⟨g',cap,cur,hv,_,hh,_⟩
 ·cases hv
 ·injection hv with hv
  injection hv with hv
  injection hv with hv
  subst hv;exact⟨_,hh⟩
theorem Px{w:World}{base e size n b:Nat}{v:Value}{xs:List Value}(h:w.ownsRow base e size v n xs)(hb:b<base):some b≠v.ownBlock:=fun e=>by
 have:=(h.lt _ e.symm).1;omega
end
end Go.Proofs.YtadllffeoibelaaGreat
