/-
  What these parts of the proof come to, functions walked and plain laws: St6, SLess, PCan1. No condition.
-/
import Derived.Test.YtadllffeoibelaaGreatS20
import Derived.Test.YtadllffeoibelaaGreatS9
import Derived.Lib.ReflectliteSlice
import Derived.Laws.Externs
import Derived.Test.YtadllffeoibelaaGreatS11
import Derived.Lib.Bytealg
import Derived.Lib.BytesEntry
import Derived.Test.YtadllffeoibelaaGreatS10
import Derived.Test.YtadllffeoibelaaGreatS6
namespace Go.Proofs.YtadllffeoibelaaGreat
set_option maxRecDepth 100000
set_option maxHeartbeats 32000000
set_option linter.all false
section
open Go.RowKit Go.Lib
noncomputable def siT:TypeInfo:=(Tryz.prog.info? 50).get (by kernel_rfl)
noncomputable def siE:TypeInfo:=(Tryz.prog.info? 62).get (by kernel_rfl)
theorem Mg:Tryz.prog.info? 50=some siT:=by kernel_rfl
theorem Ph:Tryz.prog.info? 62=some siE:=by kernel_rfl
theorem Iv:siT.desc= .slice 62:=by kernel_rfl
theorem Pi:siE.size=23:=by kernel_rfl
theorem Pj:∀w,(Extern.Rtype.kind 62).run Tryz.prog w= .ok 25 w:=fun _=>by kernel_rfl
theorem Mh:Tryz.prog.packed 50=false:=by kernel_rfl
theorem RP:∀w,(isAgg 62).run Tryz.prog w= .ok true w:=fun _=>by kernel_rfl
theorem Tn(n:Nat)(h:2≤n):swapperK n siE 25=9:=by
 have a:siE.hasPointers=true:=by kernel_rfl
 have b:siE.bytes=88:=by kernel_rfl
 have c0:(n==0)=false:=by simp;omega
 have c1:(n==1)=false:=by simp;omega
 unfold swapperK;rw[a,b,c0,c1];rfl
def D9(n:Nat):Nat:=if n=0 then 170 else if n=1 then 171 else 178
noncomputable def EY(g n c:Nat):Array Value:=if swapperK n siE 25≤2 then #[]else #[.slice (some ⟨g,0,none⟩) n c,typeHandle Tryz.prog 62]
theorem Mi{w0:World}{g n c:Nat}:EM sgc 62 w0 g n (D9 n) (EY g n c):=by
 by_cases h:2≤n
 ·have e1:D9 n=178:=by unfold D9;rw[if_neg (by omega),if_neg (by omega)]
  have e2:EY g n c=#[.slice (some ⟨g,0,none⟩) n c,typeHandle Tryz.prog 62]:=by unfold EY;rw[Tn n h];rfl
  rw[e1,e2];exact NG sgc 23 62 62 w0 g n c 178 false
   (fun args W=>run_callFunc_extern Tryz.func178 (by kernel_rfl) (by kernel_rfl) (by kernel_rfl) (e:=Extern.ReflectliteSwapper.swap false) (by kernel_rfl) args W)
   siE Ph Pi RP (fun x=>by rw[Array.length_toList];exact x.size_cells) (fun x v hv=>x.one v hv)
 ·intro W l i j _ _ hi hj hne;omega
theorem St(g n c:Nat)(w:World):(callFunc 121 #[.iface 50 (.slice (some ⟨g,0,none⟩) n c)]).run Tryz.prog w= .ok (.value (.func (.func (D9 n)) #[] (EY g n c))) w:=by
 have hs : ∀ f, Tryz.prog.funcs.findIdx? (·.name == "internal/reflectlite" ++ ".Swapper$" ++ toString (swapperK n siE 25)) = some f → _ := fun f hf => run_swapper_slice (P := Tryz.prog) 50 62 siT siE Mg Iv Ph 25 Pj (some ⟨g, 0, none⟩) n c f hf w
 have h:=hs (D9 n) (by
  rcases Nat.lt_or_ge n 2 with h|h
  ·rcases Nat.eq_zero_or_pos n with h0|h0
   ·subst h0;kernel_rfl
   ·obtain rfl:n=1:=by omega
    kernel_rfl
  ·rw[Tn n h];unfold D9;rw[if_neg (by omega),if_neg (by omega)]
   kernel_rfl)
 rw [run_callFunc_extern Tryz.func121 (by kernel_rfl) (by kernel_rfl) (by kernel_rfl) (e := Extern.ReflectliteSwapper.swapper "internal/reflectlite" (Extern.ReflectliteValue.valueError "Swapper")) (by kernel_rfl), h]
 rfl
theorem Su(p:Option Addr)(n c:Nat)(w:World):(callFunc 120 #[.iface 50 (.slice p n c)]).run Tryz.prog w= .ok (.value (.agg #[typeHandle Tryz.prog 50,.pointer (some ⟨w.heap.size,0,none⟩),.int .u64 151])) (w.alloc (.cells #[.slice p n c] 50)):=by
 rw[run_callFunc_extern Tryz.func120 (by kernel_rfl) (by kernel_rfl) (by kernel_rfl) (e:=fun args=>Extern.ReflectliteValue.unpack (args.getD 0 (.tuple #[]))) (by kernel_rfl),
  show Sem.run Tryz.prog ((fun args:Array Value=>Extern.ReflectliteValue.unpack (args.getD 0 (.tuple #[]))) #[.iface 50 (.slice p n c)]) w=_ from run_valueOf_slice (P:=Tryz.prog) 50 62 siT Mg Iv p n c w]
 rfl
theorem Sv(a:Addr)(p:Option Addr)(n c:Nat)(w:World)(ha:w.cell? a=some (.slice p n c)):(callFunc 123 #[.agg #[typeHandle Tryz.prog 50,.pointer (some a),.int .u64 151]]).run Tryz.prog w= .ok (.value (.int .i64 n)) w:=by
 rw [run_callFunc_extern Tryz.func123 (by kernel_rfl) (by kernel_rfl) (by kernel_rfl) (e := Extern.ReflectliteValue.method (Extern.ReflectliteValue.valueError "reflectlite.Value.Len" 0) Extern.ReflectliteValue.len) (by kernel_rfl),
  run_valueLen_slice (P:=Tryz.prog) 50 62 siT Mg Iv Mh a p n c w ha]
 rfl
theorem RQ:typeHandle Tryz.prog 50= .pointer (some ⟨Tryz.prog.globals.size,50,none⟩):=rfl
theorem IJ{F:Nat}{lb:Array Value}{lt:Sg→Sg→Bool}(eg:∀args w,(callFunc F args).run Tryz.prog w= .ok (.enter F args) w)(ho:Ord lt)(l:List Sg)(g n c:Nat)(w:World)(hle:D2 sgc 62 w g l lt F lb)(hblk:Blk w g 62 (l.flatMap sgc).toArray)(hn:l.length=n)(hsmall:n≤1000000):Calls Tryz.prog 81 #[.iface 50 (.slice (some ⟨g,0,none⟩) n c),.func (.func F) #[] lb] w fun e w'=>e= .returned (.tuple #[])∧∃l',Row sgc 62 w g l' w'∧l'.Perm l∧Asc lt l':=by
 have hv:=fun W=>Su (some ⟨g,0,none⟩) n c W
 have hs:=fun W=>St g n c W
 have hl:=fun a W ha=>Sv a (some ⟨g,0,none⟩) n c W ha
 rw[RQ]at hv hl;have HC:Hid (∀W,w.grownBy W (some g)→Blk W g 62 (l.flatMap sgc).toArray→Calls Tryz.prog 122 #[.agg #[.func (.func F) #[] lb,.func (.func (D9 n)) #[] (EY g n c)],.int .i64 (n:Int)] W fun e w'=>e= .returned (.tuple #[])∧∃l',Row sgc 62 W g l' w'∧l'.Perm l∧Asc lt l'):=
  fun W hW hB=>Mf eg ho (hle.later hW) Mi l W (Row.self hB) (List.Perm.refl _) hn hsmall
 have HB:=AA hblk;generalize D9 n=sf at*;generalize EY g n c=sa at*;clear eg ho hle hblk hn;go_enter Tryz.func81,Tryz.ntmps81;go_wp2_with fail
 refine Eq.mpr (congrArg (Oper.upon _ _ _ _ _) (hl ⟨w.heap.size,0,none⟩ _ (by simp))) ?_;rw[Oper.upon_value];go_wp2_with fail
 refine(HC.out _ (((Ai w g).trans (EE _ _ _)).trans (EE _ _ _)) ((HB.out.alloc _).alloc _)).mono ?_;rintro en w2 ⟨rfl,l',hr,hp,hs⟩;go_wp2;go_end0;exact⟨rfl,l',hr.off.off,hp,hs⟩
end
section
open Go.RowKit
attribute [local go_sem ↓] Go.wp_at_zero Go.wp_at_succ An Au Av Aw
attribute [local go_sem] BD BH BI BJ AN AW AQ
theorem H6:∀a b:List UInt8,decide (Lib.compareBytes a b<0)=Op.bytesLess a b
 |[],[]=>rfl
 |[],_::_=>rfl
 |_::_,[]=>rfl
 |x::a,y::b=>by
  rw[Lib.compareBytes,Op.bytesLess,←H6 a b];by_cases h1:x<y
  ·simp[h1]
  ·by_cases h2:y<x
   ·have hne:¬x=y:=fun e=>by subst e;exact h1 h2
    simp[h1,h2,hne]
   ·have e:x=y:=by
     rw[UInt8.lt_iff_toNat_lt]at h1 h2;exact UInt8.toNat_inj.1 (by omega)
    subst e;simp[h1]
theorem H7(w:World)(B':Nat)(A:Option Addr)(c:Nat)(l:List UInt8)(hr:Rd w B' A (l.map B)):(Extern.Bytes.bytesOf (.slice A l.length c)).run Tryz.prog w= .ok ⟨l.toArray⟩ w:=by
 rcases A with _|a
 ·have hl:l=[]:=by
   rcases hr with h|⟨b,o,h,_⟩
   ·simpa using h
   ·cases h
  subst hl;rfl
 ·have h:=Lib.run_loadBytesX (P:=Tryz.prog) w (l.map fun b=>(b.toNat:Int)) a .empty (fun j x hx=>by
   rw[AU]at hx;rcases hl:l[j]? with _|y
   ·rw[hl]at hx;cases hx
   ·rw[hl]at hx;cases hx
    rcases hr with h|⟨b,o,h,_,hc⟩
    ·simp at h;subst h;simp at hl
    ·injection h with h;subst h
     rw[Addr.add_mid];exact hc j _ (by rw[AU,hl];rfl))
  have e:Lib.bytesOf (l.map fun b=>(b.toNat:Int))=l:=by
   unfold Lib.bytesOf;rw[List.map_map]
   conv=>rhs;rw[←List.map_id l]
   apply List.map_congr_left;intro b _;simp
  rw[e,AY]at h;simpa[Extern.Bytes.bytesOf]using h
theorem RR(w:World)(B':Nat)(A A':Option Addr)(c c':Nat)(l l':List UInt8)(hr:Rd w B' A (l.map B))(hr':Rd w B' A' (l'.map B)):(callFunc 181 #[.slice A l.length c,.slice A' l'.length c']).run Tryz.prog w= .ok (.value (.int .i64 (Lib.compareBytes l l'))) w:=by
 have h:(Extern.BytealgCompare.compare #[.slice A l.length c,.slice A' l'.length c']).run Tryz.prog w= .ok (.int .i64 (Lib.compareBytes l l')) w:=by
  change Sem.run Tryz.prog (do pure (goInt (Extern.BytealgCompare.cmp (←Extern.Bytes.bytesOf (.slice A l.length c)) (←Extern.Bytes.bytesOf (.slice A' l'.length c'))))) w=_;simp only[Sem.run_bind,Sem.run_pure,Result.andThen,H7 w B' A c l hr,H7 w B' A' c' l' hr'];rw[Lib.cmp_eq];rfl
 rw[run_callFunc_extern Tryz.func181 (by kernel_rfl) (by kernel_rfl) (by kernel_rfl) (e:=Extern.BytealgCompare.compare) (by kernel_rfl),h];rfl
theorem Pk(w:World)(B':Nat)(A A':Option Addr)(n n' c c':Nat)(l l':List UInt8)(hn:l.length=n)(hn':l'.length=n')(hr:Rd w B' A (l.map B))(hr':Rd w B' A' (l'.map B)):Calls Tryz.prog 124 #[.slice A n c,.slice A' n' c'] w fun e w'=>e= .returned (.int .i64 (Lib.compareBytes l l'))∧w'=w:=by
 have h:=RR w B' A A' c c' l l' hr hr';rw[hn,hn']at h;clear hr hr' hn hn';go_enter Tryz.func124,Tryz.ntmps124;go_wp2;go_ret;exact⟨rfl,rfl⟩
theorem OV(a b:Sg)(w:World)(ha:I5 w w.heap.size a)(hb:I5 w w.heap.size b):Calls Tryz.prog 83 #[a.val,b.val] w (Al w (DH a.vs b.vs)):=by
 have HL:Hid (∀W,Calls Tryz.prog 109 #[a.vote.val,b.vote.val] W (Al W (Bg a.vote b.vote))):=fun W=>KJ a.vote b.vote W
 have HC:Hid (∀W,Below w.heap.size w W→Calls Tryz.prog 124 #[.slice a.A a.sig.length a.cap,.slice b.A b.sig.length b.cap] W fun e w'=>e= .returned (.int .i64 (Lib.compareBytes a.sig b.sig))∧w'=W):=
  fun W hW=>Pk W w.heap.size a.A b.A _ _ a.cap b.cap a.sig b.sig rfl rfl (ha.2.1.below hW) (hb.2.1.below hW)
 obtain⟨k,hk⟩:∃k,k=decide (a.vote=b.vote):=⟨_,rfl⟩;have e1:∀W,(Op.equalIn 10000 46 (.agg a.vote.cells) (.agg b.vote.cells)).run Tryz.prog W= .ok k W:=fun W=>by rw[hk];exact OS a.vote b.vote W
 obtain⟨r,hr⟩:∃r,r=DH a.vs b.vs:=⟨_,rfl⟩;rw[←hr];have HR:=AA hr;have HK:=AA hk;have hB1:Blk ((w.alloc (.cells a.cells 62)).alloc (.cells b.cells 62)) w.heap.size 62 a.cells:=(Blk.new w _ _).alloc _;have hB2:Blk ((w.alloc (.cells a.cells 62)).alloc (.cells b.cells 62)) (w.alloc (.cells a.cells 62)).heap.size 62 b.cells:=Blk.new _ _ _;have x1:=a.row_vote hB1;have x2:=b.row_vote hB2;have y1:((w.alloc (.cells a.cells 62)).alloc (.cells b.cells 62)).cell? ⟨w.heap.size,22,none⟩=some (.slice a.A a.sig.length a.cap):=(hB1.cell 22).trans a.cell_sig;have y2:((w.alloc (.cells a.cells 62)).alloc (.cells b.cells 62)).cell? ⟨(w.alloc (.cells a.cells 62)).heap.size,22,none⟩=some (.slice b.A b.sig.length b.cap):=(hB2.cell 22).trans b.cell_sig;have hbel:Below w.heap.size w ((w.alloc (.cells a.cells 62)).alloc (.cells b.cells 62)):=((AC _ _).alloc (AB _) _).alloc (by simp) _;clear hr hk ha hb hB1 hB2;simp at x2 y2;go_enter Tryz.func83,Tryz.ntmps83;cases k with
 |true=>
  go_wp2_with fail
  refine(HC.out _ hbel).mono ?_;rintro en w2 ⟨rfl,rfl⟩;go_wp2;go_ret;refine⟨?_,hbel⟩;have hv:a.vote=b.vote:=of_decide_eq_true HK.out.symm;rw[HR.out];unfold DH;rw[if_pos hv,←H6];rfl
 |false=>
  go_wp2_with fail
  refine(HL.out _).mono ?_;rintro en w2 ⟨rfl,hb2⟩;go_wp2;go_ret;refine⟨?_,hbel.trans (hb2.mono hbel.size)⟩;have hv:¬a.vote=b.vote:=of_decide_eq_false HK.out.symm;rw[HR.out];unfold DH;rw[if_neg hv];rfl
theorem Bj.blk{w w':World}{b g:Nat}{s:Sg}{cs:Array Value}(h:Bj w b s)(hB:Blk w g 62 cs)(hg:w.grownBy w' (some g)):Bj w' b s:=by
 refine⟨h.1,⟨h.2.1.1,?_⟩,h.2.2⟩;rcases h.2.1.2 with h0|⟨g',cap,cur,hv,hgb,hh,r⟩
 ·exact .inl h0
 ·refine .inr ⟨g',cap,cur,hv,hgb,(hg.block g' (lt_of_block hh) ?_).trans hh,r⟩;intro e;injection e with e
  subst e;unfold Blk at hB;rw[hB]at hh;injection hh with hh
  injection hh with _ ht
  exact absurd ht (by decide)
def ltS(x y:Sg):Bool:=DH x.vs y.vs
theorem RS:Ord ltS:=⟨fun x y h=>Gr.asymm x.vs y.vs h,fun x y z h h'=>Gr.trans x.vs y.vs z.vs h h'⟩
theorem Row.sg{w0 W:World}{g i:Nat}{l:List Sg}{x:Sg}(h:Row sgc 62 w0 g l W)(hx:l[i]? =some x):AK W g (i*23) 23=some x.cells:=by
 refine Bo (fun j u hu=>?_) x.size_cells;have hj:j<23:=by
  have:=(AG.1 hu).1;rwa[Array.length_toList,x.size_cells]at this
 rw[h.blk.cell,List.getElem?_toArray,CG sgc 23 l (CM l) i j x hx hj,←hu]
theorem Mj(B g n c b:Nat)(l0:List Sg)(w0:World)(cs:Array Value)(hB:Blk w0 B 50 #[.slice (some ⟨g,0,none⟩) n c])(hne:B≠g)(hown:∀s∈l0,Bj w0 b s)(hg:Blk w0 g 62 cs)(hn:l0.length=n):D2 sgc 62 w0 g l0 ltS 82 #[.pointer (some ⟨B,0,none⟩)]:=by
 intro W l i j x y hr hp hx hy;have hi:i<n:=by rw[←hn,←hp.length_eq];exact(AG.1 hx).1
 have hj:j<n:=by rw[←hn,←hp.length_eq];exact(AG.1 hy).1
 have ok:∀s∈l,I5 W W.heap.size s:=fun s hs=>((hown s (hp.mem_iff.1 hs)).blk hg hr.kept).ok.1
 have hc0:W.cell? ⟨B,0,none⟩=some (.slice (some ⟨g,0,none⟩) n c):=(hr.box hB hne).cell 0;have HRows:Hid (∀V,Below W.heap.size W V→V.cell? ⟨B,0,none⟩=some (.slice (some ⟨g,0,none⟩) n c)∧AK V g (i*23) 23=some x.cells∧AK V g (j*23) 23=some y.cells):=
  fun V hV=>⟨(hV.cell (p:=⟨B,0,none⟩) (hr.box hB hne).lt).trans hc0,Ay (hr.sg hx) hV hr.blk.lt,Ay (hr.sg hy) hV hr.blk.lt⟩
 have HL:Hid (∀V,Below W.heap.size W V→Calls Tryz.prog 83 #[x.val,y.val] V (Al V (ltS x y))):=
  fun V hV=>OV x y V (((ok x (AM hx)).below hV).more hV.size) (((ok y (AM hy)).below hV).more hV.size)
 obtain⟨r,hrr⟩:∃r,r=ltS x y:=⟨_,rfl⟩;rw[←hrr]at HL ⊢;clear hrr hc0 ok hr hp hx hy hown hg hB hn;have hbw:Below W.heap.size W W:=AC _ _;show Calls Tryz.prog 82 #[.int .i64 (i:Int),.int .i64 (j:Int),.pointer (some ⟨B,0,none⟩)] W _;go_enter Tryz.func82,Tryz.ntmps82;go_upto_region 1 with fail
 refine rgD (fun w'=>w'.cell? ⟨B,0,none⟩=some (.slice (some ⟨g,0,none⟩) n c)∧AK w' g (i*23) 23=some x.cells∧AK w' g (j*23) 23=some y.cells) (HRows.out _ hbw.drew) fun hHeld=>?_
 refine tkD 6 0 ?_;go_frame;refine tkD 7 1 ?_;go_frame;refine tkD 8 2 ?_;go_frame;refine tkD 9 3 ?_;go_frame;refine tkD 10 4 ?_;go_frame;refine tkD 11 5 ?_;go_frame;refine tkD 12 6 ?_;go_frame;refine tkD 13 7 ?_;go_frame;refine rd1 8 fun K hK=>?_
 go_simp;refine(HL.out _ hbw.drew).mono ?_;rintro en w2 ⟨rfl,hb2⟩;have hbw2:=hbw.drew.trans (hb2.mono hbw.size);go_wp2_with fail
 refine hK.out _ _ (HRows.out _ hbw2) (fun hHeld=>?_);clear hK K;try go_frame
 refine tkD 5 9 ?_;go_frame;refine dnD ?_;go_wp2;go_ret;exact⟨rfl,hbw2⟩
end
end Go.Proofs.YtadllffeoibelaaGreat
