/-
  Parts of the proof. No condition.
-/
import Derived.Lib.Bytealg
import Derived.Lib.BytesEntry
import Derived.Test.YtadllffeoibelaaGreatS11
import Derived.Test.YtadllffeoibelaaGreatS10
open Go.Proofs.Tryz
namespace Go.Proofs.YtadllffeoibelaaGreat
set_option maxRecDepth 100000
set_option maxHeartbeats 32000000
set_option linter.all false
section
open Go.RowKit
attribute [local go_sem ↓] Go.wp_at_zero Go.wp_at_succ Aq Au Av Aw
attribute [local go_sem] BE BL BM BN AR AX AU
theorem Iq:∀a b:List UInt8,decide (Lib.compareBytes a b<0)=Op.bytesLess a b
 |[],[]=>rfl
 |[],_::_=>rfl
 |_::_,[]=>rfl
 |x::a,y::b=>by
  rw[Lib.compareBytes,Op.bytesLess,<-Iq a b];by_cases h1:x<y
  ·simp[h1]
  ·by_cases h2:y<x
   ·have hne:¬x=y:=fun e=>by subst e;exact h1 h2
    simp[h1,h2,hne]
   ·have e:x=y:=by
     rw[UInt8.lt_iff_toNat_lt]at h1 h2;exact UInt8.toNat_inj.1 (by omega)
    subst e;simp[h1]
theorem Ir(w:World)(B':Nat)(A:Option Addr)(c:Nat)(l:List UInt8)(hr:Rd w B' A (l.map B)):(Extern.Bytes.bytesOf (.slice A l.length c)).run prog w= .ok ⟨l.toArray⟩ w:=by
 rcases A with _|a
 ·have hl:l=[]:=by
   rcases hr with h|⟨b,o,h,_⟩
   ·simpa using h
   ·cases h
  subst hl;rfl
 ·have h:=Lib.run_loadBytesX (P:=prog) w (l.map fun b=>(b.toNat:Int)) a .empty (fun j x hx=>by
   rw[AV]at hx;rcases hl:l[j]? with _|y
   ·rw[hl]at hx;cases hx
   ·rw[hl]at hx;cases hx
    rcases hr with h|⟨b,o,h,_,hc⟩
    ·simp at h;subst h;simp at hl
    ·injection h with h;subst h
     rw[Addr.add_mid];exact hc j _ (by rw[AV,hl];rfl))
  have e:Lib.bytesOf (l.map fun b=>(b.toNat:Int))=l:=by
   unfold Lib.bytesOf;rw[List.map_map]
   conv=>rhs;rw[<-List.map_id l]
   apply List.map_congr_left;intro b _;simp
  rw[e,Ab]at h;simpa[Extern.Bytes.bytesOf]using h
theorem S4(w:World)(B':Nat)(A A':Option Addr)(c c':Nat)(l l':List UInt8)(hr:Rd w B' A (l.map B))(hr':Rd w B' A' (l'.map B)):(callFunc 181 #[.slice A l.length c,.slice A' l'.length c']).run prog w= .ok (.value (.int .i64 (Lib.compareBytes l l'))) w:=by
 have h:(Extern.BytealgCompare.compare #[.slice A l.length c,.slice A' l'.length c']).run prog w= .ok (.int .i64 (Lib.compareBytes l l')) w:=by
  change Sem.run prog (do pure (goInt (Extern.BytealgCompare.cmp (<-Extern.Bytes.bytesOf (.slice A l.length c)) (<-Extern.Bytes.bytesOf (.slice A' l'.length c'))))) w=_;simp only[Sem.run_bind,Sem.run_pure,Result.andThen,Ir w B' A c l hr,Ir w B' A' c' l' hr'];rw[Lib.cmp_eq];rfl
 rw[run_callFunc_extern func181 (by kernel_rfl) (by kernel_rfl) (by kernel_rfl) (e:=Extern.BytealgCompare.compare) (by kernel_rfl),h];rfl
theorem Q1(w:World)(B':Nat)(A A':Option Addr)(n n' c c':Nat)(l l':List UInt8)(hn:l.length=n)(hn':l'.length=n')(hr:Rd w B' A (l.map B))(hr':Rd w B' A' (l'.map B)):Calls prog 124 #[.slice A n c,.slice A' n' c'] w fun e w'=>e= .returned (.int .i64 (Lib.compareBytes l l'))/\w'=w:=by
 have h:=S4 w B' A A' c c' l l' hr hr';rw[hn,hn']at h;clear hr hr' hn hn';go_enter func124,ntmps124;go_wp2;go_ret;exact⟨rfl,rfl⟩
theorem Pt(a b:Sg)(w:World)(ha:Jm w w.heap.size a)(hb:Jm w w.heap.size b):Calls prog 83 #[a.val,b.val] w (An w (Dd a.vs b.vs)):=by
 have HL:Hid (∀W,Calls prog 109 #[a.vote.val,b.vote.val] W (An W (Bf a.vote b.vote))):=fun W=>LE a.vote b.vote W
 have HC:Hid (∀W,Wx w W->Calls prog 124 #[.slice a.A a.sig.length a.cap,.slice b.A b.sig.length b.cap] W fun e w'=>e= .returned (.int .i64 (Lib.compareBytes a.sig b.sig))/\w'=W):=
  fun W hW=>Q1 W w.heap.size a.A b.A _ _ a.cap b.cap a.sig b.sig rfl rfl (ha.2.1.below hW) (hb.2.1.below hW)
 obtain⟨k,hk⟩:=Wr (decide (a.vote=b.vote));have e1:∀W,(Op.equalIn 10000 46 (.agg a.vote.cells) (.agg b.vote.cells)).run prog W= .ok k W:=fun W=>by rw[hk];exact UZ a.vote b.vote W
 obtain⟨r,hr⟩:=Wr (Dd a.vs b.vs);rw[<-hr];have HR:=AA hr;have HK:=AA hk;have hB1:Blk ((w.alloc (.cells a.cells 62)).alloc (.cells b.cells 62)) w.heap.size 62 a.cells:=(Blk.new w _ _).alloc _;have hB2:Blk ((w.alloc (.cells a.cells 62)).alloc (.cells b.cells 62)) (w.alloc (.cells a.cells 62)).heap.size 62 b.cells:=Blk.new _ _ _;have x1:=a.row_vote hB1;have x2:=b.row_vote hB2;have y1:((w.alloc (.cells a.cells 62)).alloc (.cells b.cells 62)).cell? ⟨w.heap.size,22,none⟩=some (.slice a.A a.sig.length a.cap):=(hB1.cell 22).trans a.cell_sig;have y2:((w.alloc (.cells a.cells 62)).alloc (.cells b.cells 62)).cell? ⟨(w.alloc (.cells a.cells 62)).heap.size,22,none⟩=some (.slice b.A b.sig.length b.cap):=(hB2.cell 22).trans b.cell_sig;have hDJ:Wx w ((w.alloc (.cells a.cells 62)).alloc (.cells b.cells 62)):=((AC _ _).alloc (AB _) _).alloc (by simp) _;clear hr hk ha hb hB1 hB2;simp at x2 y2;go_enter func83,ntmps83;cases k with
 |true=>
  go_wp2_with fail
  refine(HC.out _ hDJ).mono ?_;rintro en w2 ⟨rfl,rfl⟩;go_wp2;go_ret;refine⟨?_,hDJ⟩;have hv:a.vote=b.vote:=of_decide_eq_true HK.out.symm;rw[HR.out];unfold Dd;rw[if_pos hv,<-Iq];rfl
 |false=>
  go_wp2_with fail
  refine(HL.out _).mono ?_;rintro en w2 ⟨rfl,hb2⟩;go_wp2;go_ret;refine⟨?_,hDJ.trans (hb2.mono hDJ.size)⟩;have hv:¬a.vote=b.vote:=of_decide_eq_false HK.out.symm;rw[HR.out];unfold Dd;rw[if_neg hv];rfl
theorem CC.blk{w w':World}{b g:Nat}{s:Sg}{cs:Array Value}(h:CC w b s)(hB:Blk w g 62 cs)(hg:w.grownBy w' (some g)):CC w' b s:=by
 refine⟨h.1,⟨h.2.1.1,?_⟩,h.2.2⟩;rcases h.2.1.2 with h0|⟨g',cap,cur,hv,hgb,hh,r⟩
 ·exact .inl h0
 ·refine .inr ⟨g',cap,cur,hv,hgb,(hg.block g' (lt_of_block hh) ?_).trans hh,r⟩;intro e;injection e with e
  subst e;unfold Blk at hB;rw[hB]at hh;injection hh with hh
  injection hh with _ ht
  exact absurd ht (by decide)
def ltS(x y:Sg):Bool:=Dd x.vs y.vs
theorem S6:Ord ltS:=⟨fun x y h=>Ik.asymm x.vs y.vs h,fun x y z h h'=>Ik.trans x.vs y.vs z.vs h h'⟩
theorem Row.sg{w0 W:World}{g i:Nat}{l:List Sg}{x:Sg}(h:Row sgc 62 w0 g l W)(hx:l[i]? =some x):AK W g (i*23) 23=some x.cells:=by
 refine By (fun j u hu=>?_) x.size_cells;have hj:j<23:=by
  have:=(AF.1 hu).1;rwa[Array.length_toList,x.size_cells]at this
 rw[h.blk.cell,List.getElem?_toArray,CN sgc 23 l (C0 l) i j x hx hj,<-hu]
theorem NT(B g n c b:Nat)(l0:List Sg)(w0:World)(cs:Array Value)(hB:Blk w0 B 50 #[.slice (some ⟨g,0,none⟩) n c])(hne:B≠g)(xB:∀s∈l0,CC w0 b s)(hg:Blk w0 g 62 cs)(hn:l0.length=n):EO sgc 62 w0 g l0 ltS 82 #[.pointer (some ⟨B,0,none⟩)]:=by
 intro W l i j x y hr hp hx hy;have hi:i<n:=by rw[<-hn,<-hp.length_eq];exact(AF.1 hx).1
 have hj:j<n:=by rw[<-hn,<-hp.length_eq];exact(AF.1 hy).1
 have ok:∀s∈l,Jm W W.heap.size s:=fun s hs=>((xB s (hp.mem_iff.1 hs)).blk hg hr.kept).ok.1
 have hc0:W.cell? ⟨B,0,none⟩=some (.slice (some ⟨g,0,none⟩) n c):=(hr.box hB hne).cell 0;have xe:Hid (∀V,Wx W V->V.cell? ⟨B,0,none⟩=some (.slice (some ⟨g,0,none⟩) n c)/\AK V g (i*23) 23=some x.cells/\AK V g (j*23) 23=some y.cells):=
  fun V hV=>⟨(hV.cell (p:=⟨B,0,none⟩) (hr.box hB hne).lt).trans hc0,BC (hr.sg hx) hV hr.blk.lt,BC (hr.sg hy) hV hr.blk.lt⟩
 have HL:Hid (∀V,Wx W V->Calls prog 83 #[x.val,y.val] V (An V (ltS x y))):=
  fun V hV=>Pt x y V (((ok x (AN hx)).below hV).more hV.size) (((ok y (AN hy)).below hV).more hV.size)
 obtain⟨r,hrr⟩:=Wr (ltS x y);rw[<-hrr]at HL ⊢;clear hrr hc0 ok hr hp hx hy xB hg hB hn;have hbw:Wx W W:=AC _ _;show Calls prog 82 #[.int .i64 (i:Int),.int .i64 (j:Int),.pointer (some ⟨B,0,none⟩)] W _;go_enter func82,ntmps82;go_upto_region 1 with fail
 refine rgD (fun w'=>w'.cell? ⟨B,0,none⟩=some (.slice (some ⟨g,0,none⟩) n c)/\AK w' g (i*23) 23=some x.cells/\AK w' g (j*23) 23=some y.cells) (xe.out _ hbw.drew) fun _=>?_
 iterate 8 (refine tkA ?_;go_frame)
 refine rd1 8 fun K hK=>?_
 go_simp;refine(HL.out _ hbw.drew).mono ?_;rintro en w2 ⟨rfl,hb2⟩;have xL:=hbw.drew.trans (hb2.mono hbw.size);go_wp2_with fail
 refine hK.out _ _ (xe.out _ xL) (fun _=>?_);clear hK K;try go_frame
 refine tkD 5 9 ?_;go_frame;refine dnD ?_;go_wp2;go_ret;exact⟨rfl,xL⟩
def Ct:Sg:=⟨Bk,[],none,0⟩
theorem LQ:Ct.cells=BI:=rfl
theorem S7(n:Nat):madeCells (Value.cells (.agg BI)) (n*23)=((List.replicate n Ct).flatMap sgc).toArray:=by
 have hl:((List.replicate n Ct).flatMap sgc).length=n*23:=by
  rw[AY sgc 23 _ (fun s _=>C0 [s] s (by simp)),List.length_replicate]
 apply Array.ext
 ·rw[size_madeCells];simpa using hl.symm
 ·intro k h1 h2;rw[size_madeCells]at h1;have hk:k/23<n:=by omega
  have hg:=CN sgc 23 (List.replicate n Ct) (fun s _=>C0 [s] s (by simp)) (k/23) (k%23) Ct (by rw[List.getElem?_replicate,if_pos hk]) (by omega);rw[show k/23*23+k%23=k from by omega]at hg;have e1:((List.replicate n Ct).flatMap sgc).toArray[k]? =(sgc Ct)[k%23]?:=by rw[List.getElem?_toArray,hg]
  have e2:(madeCells (Value.cells (.agg BI)) (n*23))[k]? =BI[k%23]?:=by
   have hz:k%23<BI.size:=by show k%23<23;omega
   rw[madeCells,Array.getElem?_map,Array.getElem?_range,if_pos h1];show some (BI[k%23]!)=_;rw[Array.getElem?_eq_getElem hz,getElem!_pos BI _ hz]
  have e3:(sgc Ct)[k%23]? =BI[k%23]?:=by
   show(Ct.cells.toList)[k%23]? =_;rw[LQ,Array.getElem?_toList]
  have e4:(madeCells (Value.cells (.agg BI)) (n*23))[k]? =((List.replicate n Ct).flatMap sgc).toArray[k]?:=by rw[e2,e1,e3]
  rw[Array.getElem?_eq_getElem (by rw[size_madeCells];exact h1),Array.getElem?_eq_getElem h2]at e4;exact Option.some.inj e4
theorem MI{op:Oper}{a:Act}{w w0:World}{K:Act->World->Prop}{Q:Exit->Act->World->Prop}(x y:Operand)(ho:op.op= .store 62 x y)(g i:Nat)(s:Sg)(hx:a.eval x= .pointer (some ⟨g,i*23,none⟩))(hy:a.eval y=s.val)(l:List Sg)(hR:Row sgc 62 w0 g l w)(hi:i<l.length)(hd:op.dst=none)(h:∀w',Row sgc 62 w g (l.set i s) w'->K a w'):op.wp prog a w K Q:=by
 have xQ:(l.flatMap sgc).length=l.length*23:=AY sgc 23 l (C0 l);have hb:i*23+23<=l.length*23:=by omega
 have hth:w.there g (i*23) 23:=fun j hj=>⟨by
  rw[hR.blk.cell,Array.getElem?_eq_getElem (by simp only[List.size_toArray];omega)];rfl,hR.blk.frozen _⟩
 refine wp_store_mid 62 x y ho g (i*23) s.cells hx hy (by rw[s.size_cells];exact hth) (by rw[s.size_cells];kernel_rfl) (Array.all_eq_true_iff_forall_mem.2 fun v hv=>s.one v (by simpa using hv)) ?_;obtain⟨b1,k1⟩:=DS g 62 s.cells.toList (i*23) w (l.flatMap sgc) hR.blk (by rw[Array.length_toList,s.size_cells,xQ];exact hb);rw[Array.length_toList,s.size_cells,<-IF sgc 23 l (C0 l) i s hi]at b1;rw[hd];exact h _ ⟨b1,k1⟩
def Q2(l:List Sg)(w w1:World)(g:Nat)(iv:Value)(wr:World):Prop:=
 ∃(i:Nat) (O:List Sg),iv= .int .i64 (i:Int)/\i<=l.length/\O.length=i/\O.map Sg.vs=(l.map Sg.vs).take i/\Row sgc 62 w1 g (O++List.replicate (l.length-i) Ct) wr/\(∀s∈O,CC wr w.heap.size s)
def S8(l:List Sg)(w3:World)(v iv:Value)(wr:World):Prop:=
 ∃(i:Nat),iv= .int .i64 (i:Int)/\i<=l.length/\wr.ownsRow w3.heap.size 62 23 v (Da Sg.vote l i).length ((Da Sg.vote l i).flatMap sgc)/\Wx w3 wr
theorem Kn{l:List Sg}{i:Nat}{x:Sg}(hx:l[i]? =some x):Da Sg.vote l (i+1)=Da Sg.vote l i++if(i=0∨(l[i-1]?.map Sg.vote)≠some x.vote)then[x]else[]:=by rw[Da,hx]
theorem MJ{l:List Sg}:∀{i:Nat} {s:Sg},s∈Da Sg.vote l i->s∈l
 |0,s,h=>by cases h
 |i+1,s,h=>by
  rw[Da]at h;rcases AP.1 h with h|h
  ·exact MJ h
  ·rcases hl:l[i]? with _|x
   ·rw[hl]at h;cases h
   ·rw[hl]at h;simp only at h;split at h
    ·rw[AM.1 h];exact AN hl
    ·cases h
theorem NU(args:Array Value)(W:World):(callFunc 82 args).run prog W= .ok (.enter 82 args) W:=by
 go_simp
theorem Row.far{α:Type}{c:α->List Value}{t:TypeId}{w0 w w':World}{g k:Nat}{l:List α}(h:Row c t w0 g l w)(hg:w.grownBy w' (some k))(hk:k≠g)(hk0:w0.heap.size<=k):Row c t w0 g l w':=
 ⟨h.blk.kept hg (by simpa using Ne.symm hk),h.kept.andThen hg (Wt (.inl hk0))⟩
theorem Row.sgv{w0 W:World}{g i:Nat}{l:List Sg}{x:Sg}(h:Row sgc 62 w0 g l W)(hx:l[i]? =some x):AK W g (i*23) 22=some x.vote.cells:=by
 have h1:=(EM (h.sg hx)).2;refine By (fun j u hu=>h1 j u ?_) rfl;have:=x.cell_vote j u (by simpa using hu);simpa using this
theorem CC.below{w w':World}{b B':Nat}{s:Sg}(h:CC w b s)(hb:Below B' w w')(hB:w.heap.size<=B'):CC w' b s:=⟨h.1,BP h.2.1 hb hB,h.2.2⟩
theorem MK{o:Oper}{a:Act}(v:Vt)(sig:List UInt8)(A:Option Addr)(c:Nat)(s t:Operand)(ho:o.op= .build 62 #[(0,s),(1,t)])(hs:a.eval s= .agg v.cells)(ht:a.eval t= .slice A sig.length c)(w:World):(execOp a.eval o).run prog w= .ok (.value (Sg.mk v sig A c).val) w:=by
 unfold Sg.val;rw[OJ];unfold execOp;rw[ho];simp only[List.map_toArray,List.map_cons,List.map_nil,hs,ht];go_simp
def Q3(w:World)(l:List VS)(e:Ending)(w':World):Prop:=
 ∃(L:List Sg) (v:Value),e= .returned v/\Wx w w'/\w'.ownsRow w.heap.size 62 23 v L.length (L.flatMap sgc)/\(∀s∈L,CC w' w.heap.size s)/\L.map Sg.vs=Cc l
theorem Ko(A:Option Addr)(n c:Nat)(l:List Sg)(w:World)(hn:l.length=n)(hr:Rd w w.heap.size A (l.flatMap sgc))(hok:IJ w w.heap.size l)(xR:n<=1000000):Calls prog 46 #[.slice A n c] w (Q3 w (l.map Sg.vs)):=by
 have HN:=AA hn;clear hn;have HR:=AA hr;clear hr;have HOk:=AA hok;clear hok;obtain⟨i0,hi,hz0,hz1,hz2⟩:=info_parts DJ;obtain⟨Z,hZ⟩:=Wr (((List.replicate n Ct).flatMap sgc).toArray);have hmk:∀W:World,(Instr.makeSlice 50 (.int .i64 (n:Int)) (.int .i64 (n:Int))).run prog W= .ok (.slice (some ⟨W.heap.size,0,none⟩) n n) (W.alloc (.cells Z 62)):=fun W=>by
  have:=run_make (P:=prog) W 50 62 i0 _ underlying50 hi hz0 .i64 .i64 n n (by omega) (by omega) (by rw[hz2];omega) (by omega);rw[this,hz1,Int.toNat_natCast,S7,<-hZ]
 have HZ:=AA hZ;clear hZ hi hz0 hz1 hz2;go_enter func46,ntmps46;go_upto_region 2 with fail
 obtain⟨w1,hw1⟩:=Wr ((w.alloc (.cells Z 62)).alloc (.cells #[.slice (some ⟨w.heap.size,0,none⟩) n n] 50));rw[<-hw1];have yK:Wx w w1:=by rw[hw1];exact((AC _ _).alloc (AB _) _).alloc (by simp) _
 have HB1:Hid (Blk w1 w.heap.size 62 ((List.replicate n Ct).flatMap sgc).toArray):=by
  unfold Hid;rw[hw1,<-HZ.out];exact(Blk.new w _ _).alloc _
 have HB2:Hid (Blk w1 (w.heap.size+1) 50 #[.slice (some ⟨w.heap.size,0,none⟩) n n]):=by
  unfold Hid;rw[hw1];have:=Blk.new (w.alloc (.cells Z 62)) 50 #[.slice (some ⟨w.heap.size,0,none⟩) n n];simpa using this
 have hw1s:w1.heap.size=w.heap.size+2:=by rw[hw1];simp
 clear hw1 hmk HZ;clear Z;obtain⟨g,hg⟩:=Wr w.heap.size;obtain⟨p,hp⟩:=Wr (w.heap.size+1);rw[<-hp,<-hg];rw[<-hp,<-hg]at HB2;rw[<-hg]at HB1;have hpg:p≠g:=by omega
 have hgw:w.heap.size<=g:=by omega
 have hpw:w.heap.size<=p:=by omega
 have hg1:g<w1.heap.size:=by omega
 have hp1:p<w1.heap.size:=by omega
 clear hw1s hg hp;go_wp2
 go_loopw [14] (fun iv wr=>Q2 l w w1 g iv wr) (fun iv _=>n-(intOf iv).toNat)
 case atStart=>
  refine⟨0,[],rfl,Nat.zero_le _,rfl,by simp,?_,fun s hs=>by cases hs⟩;rw[List.nil_append,Nat.sub_zero,HN.out];exact Row.self HB1.out
 case round=>
  obtain⟨i,O,rfl,hin,hOl,hO,xP,xB⟩:=hrel;rw[HN.out]at hin xP;have hbw:Wx w wr:=yK.grown xP.kept yK.size (Wt hgw);have hc3:wr.cell? ⟨p,0,none⟩=some (.slice (some ⟨g,0,none⟩) n n):=(xP.box HB2.out hpg).cell 0;have hgwr:g<wr.heap.size:=xP.blk.lt;have hpwr:p<wr.heap.size:=(xP.box HB2.out hpg).lt;have hw1wr:w1.heap.size<=wr.heap.size:=xP.kept.size;have HO:=AA hO;have HOl:=AA hOl;have xY:=AA xP;have xF:=AA xB;clear hO hOl xP xB;by_cases hi:i<n
  ·have di:=Wu (show i<n by omega)
   obtain⟨s,hs⟩:∃s,l[i]? =some s:=⟨_,AE (by rw[HN.out];exact hi)⟩;obtain⟨b,o,rfl,hb,xH⟩:=HR.out.cells (by intro e;have:=AY sgc 23 l (C0 l);rw[e,HN.out]at this;simp at this;omega);clear xH;have hF8:AK wr b (o+i*23) 23=some s.cells:=(HR.out.below hbw).sgRow hs;have hsm:s∈l:=AN hs;have HSk:=AA (HOk.out s hsm).1;have hsl:s.sig.length<=140737488351232:=HSk.out.2.2;have HS:=AA hs;clear hs hsm;go_upto_region 5 with(refine AJ rfl 62 (.tmp 5) (.tmp 18) rfl wr.heap.size s.cells rfl rfl 62 BI (Blk.new wr _ _) (by rw[s.size_cells];rfl) (by rw[s.size_cells];kernel_rfl) (fun u hu=>s.one u hu) ?_;intro w2 hB2 hg2 hF9)
   have HR2:Hid (Row sgc 62 w1 g (O++List.replicate (n-i) Ct) w2):=(xY.out.alloc _).far hg2 (by omega) (by omega);have yD:Hid (∀t∈O,CC w2 w.heap.size t):=fun t ht=>((xF.out t ht).alloc _).blk (Blk.new wr _ _) hg2
   have xL:Wx w w2:=yK.grown HR2.out.kept yK.size (Wt hgw);have HC2:Hid (Blk w2 p 50 #[.slice (some ⟨g,0,none⟩) n n]):=HR2.out.box HB2.out hpg;have HBx:=AA hB2;have hw2:w2.heap.size=wr.heap.size+1:=by rw[hF9];simp
   obtain⟨q,hq⟩:=Wr wr.heap.size;rw[<-hq]at HBx hw2 ⊢;have hq2:q<w2.heap.size:=by omega
   have hqg:q≠g:=by omega
   have xe:Hid (∀V,Wx w2 V->V.cell? ⟨p,0,none⟩=some (.slice (some ⟨g,0,none⟩) n n)/\AK V q 0 22=some s.vote.cells/\V.cell? ⟨q,22,none⟩=some (.slice s.A s.sig.length s.cap)):=fun V hV=>
    ⟨(hV.cell (p:=⟨p,0,none⟩) HC2.out.lt).trans (HC2.out.cell 0),s.row_vote (HBx.out.below hV hq2),((HBx.out.below hV hq2).cell 22).trans s.cell_sig⟩
   have HApp:Hid (∀V,Wx w2 V->Calls prog 80 #[.slice s.A s.sig.length s.cap,.int .u64 0,.int .i64 0] V (CX V 5 1 s.sig.length (s.sig.map B))):=fun V hV=>
    Rh s.A s.sig.length s.cap 0 (s.sig.map B) V (by simp) (((HSk.out.2.1.below xL).more xL.size).below hV|>.more hV.size) (fun u hu=>B7 hu) hsl
   clear hg2 hF9 hB2 hF8 hc3 hq;have hbx:Wx w2 w2:=AC _ _;refine rgD (fun w'=>w'.cell? ⟨p,0,none⟩=some (.slice (some ⟨g,0,none⟩) n n)/\AK w' q 0 22=some s.vote.cells/\w'.cell? ⟨q,22,none⟩=some (.slice s.A s.sig.length s.cap)) (xe.out _ hbx.drew) fun _=>?_
   iterate 6 (refine tkA ?_;go_frame)
   refine rd1 6 fun K hK=>?_
   go_simp;refine(HApp.out _ hbx.drew).mono ?_;rintro en w3 ⟨A3,c3,rfl,xC,hb3⟩;have xD:=hbx.drew.trans (hb3.mono (AB _));have HR3:=AA (HR2.out.below xD);have yH:Hid (∀t∈O,CC w3 w.heap.size t):=(fun t ht=>(yD.out t ht).below xD (AB _));have zW:Hid (CC w3 w.heap.size (Sg.mk s.vote s.sig A3 c3)):=⟨HSk.out.1,BS xC (AG xL.size (AB _)),hsl⟩;clear xC hb3;go_wp2_with fail
   refine hK.out _ _ (xe.out _ xD) (fun _=>?_);clear hK K;try go_frame
   refine tkV 26 7 ((Sg.mk s.vote s.sig A3 c3).val) (fun wq _=>MK s.vote s.sig A3 c3 (.tmp 22) (.tmp 25) rfl rfl rfl wq) ?_;go_frame;refine tkD 27 8 ?_;go_frame;refine rd1 9 fun K hK=>?_
   rw[if_pos (by rfl)];refine MI (.tmp 27) (.tmp 26) (by rfl) g i (Sg.mk s.vote s.sig A3 c3) (by rfl) (by rfl) (O++List.replicate (n-i) Ct) (w0:=w1) HR3.out (by rw[AI,List.length_replicate,HOl.out];omega) (by rfl) ?_;intro w5 hr5;have hEP:Hid (w5.cell? ⟨p,0,none⟩=some (.slice (some ⟨g,0,none⟩) n n)/\AK w5 q 0 22=some s.vote.cells/\w5.cell? ⟨q,22,none⟩=some (.slice s.A s.sig.length s.cap)):=⟨((hr5.box (HR3.out.box HB2.out hpg) hpg).cell 0),s.row_vote (hr5.box (HBx.out.below xD hq2) hqg),((hr5.box (HBx.out.below xD hq2) hqg).cell 22).trans s.cell_sig⟩;refine hK.out _ _ (hEP.out) (fun _=>?_);clear hK K;try go_frame
   refine dnD ?_;go_wp2_with fail
   go_roundw
   case rel=>
    refine⟨i+1,O++[Sg.mk s.vote s.sig A3 c3],by go_num,by rw[HN.out];omega,by rw[AI,HOl.out];rfl,?_,?_,?_⟩
    ·rw[Ad,HO.out,Ah,AV,HS.out];rfl
    ·have h:=HR3.out.trans hr5;have e:(O++List.replicate (n-i) Ct).set i (Sg.mk s.vote s.sig A3 c3)=O++[Sg.mk s.vote s.sig A3 c3]++List.replicate (l.length-(i+1)) Ct:=by
      rw[List.set_append_right _ _ (by rw[HOl.out];exact AB _),HOl.out,Nat.sub_self,HN.out,show n-i=n-(i+1)+1 from by omega,List.replicate_succ,List.set_cons_zero];simp
     rw[e]at h;exact h
    ·intro t ht;rcases AP.1 ht with ht|ht
     ·exact(yH.out t ht).blk HR3.out.blk hr5.kept
     ·rw[AM.1 ht];exact zW.out.blk HR3.out.blk hr5.kept
   case measure=>simp[intOf];omega
  ·have di:=Wv (show n<=i by omega)
   obtain rfl:n=i:=by omega
   have HRn:Hid (Row sgc 62 w1 g O wr):=by
    have h:=xY.out;rw[Nat.sub_self,List.replicate_zero,List.append_nil]at h;exact h
   have HBp:Hid (Blk wr p 50 #[.slice (some ⟨g,0,none⟩) n n]):=HRn.out.box HB2.out hpg;have yQ:=AA (I7 (fun args W=>NU args W) S6 O g n n wr (NT p g n n w.heap.size O wr _ HBp.out hpg xF.out HRn.out.blk HOl.out) HRn.out.blk HOl.out xR);clear xY;go_wp2_with fail
   refine yQ.out.mono ?_;rintro en w3 ⟨rfl,l3,hr3,hp3,hs3⟩;have HR3:=AA hr3;have HPm:=AA hp3;have HAs:=AA hs3;have HB3:Hid (Blk w3 p 50 #[.slice (some ⟨g,0,none⟩) n n]):=hr3.box HBp.out hpg;have hc3':w3.cell? ⟨p,0,none⟩=some (.slice (some ⟨g,0,none⟩) n n):=HB3.out.cell 0;have yH:Hid (∀s∈l3,CC w3 w.heap.size s):=fun s hs=>(xF.out s (hp3.mem_iff.1 hs)).blk HRn.out.blk hr3.kept
   have xT:Wx w w3:=yK.grown ((HRn.out.trans hr3).kept) yK.size (Wt hgw);have HL3:Hid (l3.length=n):=hp3.length_eq.trans HOl.out;have hg3:g<w3.heap.size:=hr3.blk.lt;have hEQ:p<w3.heap.size:=HB3.out.lt;clear hr3 hp3 hs3 yQ hc3 xF HBp HRn;go_wp2
   go_loopw [6,35] (fun v iv wr=>S8 l3 w3 v iv wr) (fun _ iv _=>n-(intOf iv).toNat)
   case atStart=>exact⟨0,rfl,Nat.zero_le _,⟨by simp[Da],.inl ⟨by simp,rfl⟩⟩,AC _ _⟩
   case round=>
    clear hc3';obtain⟨i,rfl,hBJ,hAT,hbr⟩:=hrel;rw[HL3.out]at hBJ;obtain⟨T,hT⟩:=Wr (Da Sg.vote l3 i);have hTl:T.length<=1000000:=by have:=M2 Sg.vote l3 i;rw[hT];omega
    rw[<-hT]at hAT;have HT:=AA hT;have HOv:=AA hAT;clear hT hAT;by_cases hi2:i<n
    ·have di2:=Wu (show i<n by omega)
     obtain⟨x,hx⟩:∃x,l3[i]? =some x:=⟨_,AE (by rw[HL3.out];exact hi2)⟩;have hGA:AK wr g (i*23) 23=some x.cells:=BC (HR3.out.sg hx) hbr hg3;have HXx:=AA hx;clear hx;go_upto_region 12 with(refine AJ rfl 62 (.tmp 8) (.tmp 39) rfl wr.heap.size x.cells rfl rfl 62 BI (Blk.new wr _ _) (by rw[x.size_cells];rfl) (by rw[x.size_cells];kernel_rfl) (fun u hu=>x.one u hu) ?_;intro w4 hB4 hg4 xb)
     have hBK:Hid (w4.ownsRow w3.heap.size 62 23 u6 T.length (T.flatMap sgc)):=Ba (HOv.out.alloc _) hg4 (fun k hk=>by
      injection hk with hk
      subst hk;right;intro e;have:=(HOv.out.lt _ e).2;omega)
     have yY:Wx w3 w4:=(hbr.alloc hbr.size _).grown hg4 (AG hbr.size (by simp)) (Wt hbr.size);have hw4:w4.heap.size=wr.heap.size+1:=by rw[xb];simp
     have HBx:=AA hB4;obtain⟨q,hq⟩:=Wr wr.heap.size;rw[<-hq]at HBx hw4 ⊢;have hq4:q<w4.heap.size:=by omega
     clear hB4 hg4 xb hGA hq HOv hbr;obtain⟨r,hrr⟩:=Wr ((decide (i=0)||decide ((l3[i-1]?.map Sg.vote)≠some x.vote)));have HRr:=AA hrr;clear hrr;go_frame;go_cut[52] (fun bv wx=>bv= .bool r/\∃k,wx=w4.drewN k)
     case first=>
      by_cases h0:i=0
      ·subst h0;refine rgD (fun _=>True) (trivial) fun _=>?_
       iterate 3 (refine tkA ?_;go_frame)
       refine skD 43 3 ?_;go_frame;refine skD 44 4 ?_;go_frame;refine skD 45 5 ?_;go_frame;refine skD 46 6 ?_;go_frame;refine skD 47 7 ?_;go_frame;refine skD 48 8 ?_;go_frame;refine skD 49 9 ?_;go_frame;refine skD 50 10 ?_;go_frame;refine skD 51 11 ?_;go_frame;refine tkD 52 12 ?_;go_frame;refine dnD ?_;go_wp2_with fail
       go_meet;exact⟨by rw[HRr.out];rfl,1,rfl⟩
      ·have d0:decide ((i:Int)=0)=false:=by simp;omega
       have d0b:((i:Int)==0)=false:=by simp;omega
       obtain⟨y,hy⟩:∃y,l3[i-1]? =some y:=⟨_,AE (by rw[HL3.out];omega)⟩;obtain⟨j,hj⟩:=Wr (i-1);rw[<-hj]at hy;have hji:(i:Int)-1=(j:Int):=by omega
       have hjn:j<n:=by omega
       have hwj:IntKind.i64.wrap (j:Int)=(j:Int):=EV _ (by omega);have HJ:=AA hj;clear hj;obtain⟨k,hk⟩:=Wr (decide (x.vote=y.vote));have e1:∀W,(Op.equalIn 10000 46 (.agg x.vote.cells) (.agg y.vote.cells)).run prog W= .ok k W:=fun W=>by rw[hk];exact UZ x.vote y.vote W
       have HKk:=AA hk;have HYy:=AA hy;clear hk hy;have xe:Hid (∀V,Wx w4 V->AK V q 0 22=some x.vote.cells/\V.cell? ⟨p,0,none⟩=some (.slice (some ⟨g,0,none⟩) n n)/\AK V g (j*23) 22=some y.vote.cells):=fun V hV=>
        ⟨x.row_vote (HBx.out.below hV hq4),((yY.trans (hV.mono yY.size)).cell (p:=⟨p,0,none⟩) hEQ).trans (HB3.out.cell 0),BC (HR3.out.sgv HYy.out) (yY.trans (hV.mono yY.size)) hg3⟩
       have hbx:Wx w4 w4:=AC _ _;refine rgD (fun w'=>AK w' q 0 22=some x.vote.cells/\w'.cell? ⟨p,0,none⟩=some (.slice (some ⟨g,0,none⟩) n n)/\AK w' g (j*23) 22=some y.vote.cells) (xe.out _ hbx.drew) fun _=>?_
       iterate 13 (refine tkA ?_;go_frame)
       refine dnD ?_;go_wp2_with fail
       go_meet;refine⟨?_,1,rfl⟩;rw[HRr.out,<-HJ.out,HYy.out,HKk.out];simp[h0,eq_comm]
     case rest=>
      obtain⟨rfl,k,rfl⟩:=hcut;have hrq:AK (w4.drewN k) q 0 23=some x.cells:=by rw[AU];exact HBx.out.row 23 x.size_cells
      have hAU:Hid ((w4.drewN k).ownsRow w3.heap.size 62 23 u6 T.length (T.flatMap sgc)):=hBK.out;have zX:Wx w3 (w4.drewN k):=BJ yY k;cases r with
      |true=>
       have hC:i=0∨(l3[i-1]?.map Sg.vote)≠some x.vote:=by
        have h:=HRr.out.symm;rw[Bool.or_eq_true,decide_eq_true_eq,decide_eq_true_eq]at h;exact h
       have HC:=AA hC;clear hC;clear HRr hBK yY;generalize w4.drewN k=w5 at*;go_wp2_with ((first
        |(refine BQ rfl 50 62 (.tmp 54) rfl x.cells rfl underlying50 (by rw[Sg.size_cells];kernel_rfl) (by rw[Sg.size_cells];omega) (by rw[Sg.size_cells];omega) ?_)
        |(at_builtin;refine Ar rfl (.tmp 53) (.tmp 55) _ rfl w3.heap.size 62 (.agg BI) 23 88 underlying50 DJ rfl (by decide) u6 T.length (T.flatMap sgc) rfl ?r0 (w5.heap.size+1) (some ⟨w5.heap.size,0,none⟩) 1 1 (sgc x) rfl ?r1 ?r2 ?r3 ?r4 ?r5 ?r6 ?_)))
       case r0=>exact hAU.out.alloc _
       case r1=>rw[Array.length_toList];exact x.size_cells
       case r2=>exact Rd.mk (by omega) (fun j u hu=>by rw[Nat.zero_add,(Blk.new w5 _ _).cell];simpa using hu)
       case r3=>exact fun u hu=>x.one u hu
       case r4=>omega
       case r5=>unfold maxLen;omega
       case r6=>have:=zX.size;simp;omega
       intro v7 w7 xE hg7 xo;have hER:Wx w3 w7:=BO (zX.alloc zX.size _) (hAU.out.alloc _) hg7;have hES:=AA xE;clear xE hg7 xo hrq hAU zX;go_wp2;go_roundw
       case rel=>
        refine⟨i+1,by go_num,by rw[HL3.out];omega,?_,hER⟩;have h:=hES.out;rw[HT.out]at h;rw[Kn HXx.out,if_pos HC.out,AI,Af];simpa using h
       case measure=>simp[intOf];omega
      |false=>
       have hC:¬(i=0∨(l3[i-1]?.map Sg.vote)≠some x.vote):=by
        have h:=HRr.out.symm;rw[Bool.or_eq_false_iff,decide_eq_false_iff_not,decide_eq_false_iff_not]at h;intro hh;rcases hh with hh|hh
        ·exact h.1 hh
        ·exact h.2 hh
       have HC:=AA hC;clear hC;clear HRr hBK yY hrq;generalize w4.drewN k=w5 at*;go_wp2;go_roundw
       case rel=>
        refine⟨i+1,by go_num,by rw[HL3.out];omega,?_,zX⟩;have h:=hAU.out;rw[HT.out]at h;rw[Kn HXx.out,if_neg HC.out,List.append_nil];exact h
       case measure=>simp[intOf];omega
    ·have di2:=Wv (show n<=i by omega)
     obtain rfl:n=i:=by omega
     go_wp2;go_ret;refine⟨T,_,rfl,xT.trans (hbr.mono xT.size),BS HOv.out xT.size,?_,?_⟩
     ·intro s hs;rw[HT.out]at hs;exact(yH.out s (MJ hs)).below hbr (AB _)
     ·have h1:=KP Sg.vote Prod.fst Sg.vs (fun _=>rfl) l3 n;rw[HT.out,h1];have h2:=M4 (l:=l.map Sg.vs) (s:=l3.map Sg.vs) (by
       have e:=HO.out;rw[AT (by rw[Ab,HN.out];exact AB _)]at e;rw[<-e];exact HPm.out.map _) (by
       have:=HAs.out;unfold Asc at this ⊢;rw[List.pairwise_map];exact this)
      rw[Ab,HL3.out]at h2;exact h2
theorem Q4(A:Option Addr)(n c:Nat)(l:List Sg)(w:World)(hn:l.length=n)(hr:Rd w w.heap.size A (l.flatMap sgc))(hok:IJ w w.heap.size l)(xR:n<=1000000):Calls prog 46 #[.slice A n c] w (Pg w (l.map Sg.vs)):=
 (Ko A n c l w hn hr hok xR).mono fun _ _ ⟨L,v,h1,h2,h3,h4,h5⟩=>⟨L,v,h1,h2,h3,fun s hs=>(h4 s hs).ok,h5⟩
theorem CE:(prog.info? 46).map (fun i=>(i.zero,i.size,i.bytes))=some (some (.agg Bk.cells),22,64):=by kernel_rfl
def El(w:World)(L:List Vt)(e:Ending)(w':World):Prop:=
 ∃v:Value,e= .returned v/\Wx w w'/\w'.ownsRow w.heap.size 46 22 v L.length (L.flatMap vtc)
def Ui(l:List Sg)(w:World)(n:Nat)(v iv:Value)(wr:World):Prop:=
 ∃(i:Nat),iv= .int .i64 (i:Int)/\i<=n/\wr.ownsRow w.heap.size 46 22 v i (((l.take i).map (·.vote)).flatMap vtc)/\Wx w wr
theorem JQ(A0:Option Addr)(n0 c0:Nat)(l0:List Sg)(w0:World)(hn:l0.length=n0)(hr:Rd w0 w0.heap.size A0 (l0.flatMap sgc))(hok:IJ w0 w0.heap.size l0)(hDK:n0<=1000000):Calls prog 47 #[.slice A0 n0 c0] w0 (El w0 ((Cc (l0.map Sg.vs)).map (·.1))):=by
 have hDL:Hid (Calls prog 46 #[.slice A0 n0 c0] w0 (Pg w0 (l0.map Sg.vs))):=Q4 A0 n0 c0 l0 w0 hn hr hok hDK;have hGB:(Cc (l0.map Sg.vs)).length<=1000000:=by have:=FF (l0.map Sg.vs);rw[Ab]at this;omega
 obtain⟨D,hD⟩:=Wr (Cc (l0.map Sg.vs));rw[<-hD]at hGB ⊢;have HD:=AA hD;clear hn hr hok hD;go_enter func47,ntmps47;go_wp2_with fail
 refine hDL.out.mono ?_;rintro en w ⟨l,v,rfl,hb0,hAi,hGC,he0⟩;rw[<-HD.out]at he0;obtain⟨A,c,rfl,hr,hc,hm,_⟩:=Qk hAi rfl hGC;have HE:=AA he0;have xR:l.length<=1000000:=by have:=congrArg List.length he0;rw[Ab]at this;omega
 obtain⟨n,hn⟩:=Ws l.length;rw[hn]at xR hc ⊢;have HN:=AA hn;have HR:=AA hr;clear hn hr he0 hAi hGC hGB;go_wp2
 go_loopw [3,9] (fun v iv wr=>Ui l w n v iv wr) (fun _ iv _=>n-(intOf iv).toNat)
 case atStart=>exact⟨0,rfl,by omega,⟨by simp,.inl ⟨rfl,rfl⟩⟩,AC _ _⟩
 case round=>
  obtain⟨i,rfl,hin,xB,hbw⟩:=hrel;by_cases hi:i<n
  ·have di:=Wu (show i<n by omega)
   have ik:(i:Int)<(n:Int):=by omega
   have hil:i<=1000000:=by omega
   obtain⟨T,hT⟩:=Wr (((l.take i).map (·.vote)).flatMap vtc);rw[<-hT]at xB;have HT:=AA hT;have xF:=AA xB;clear xB hT;obtain⟨s,hs⟩:∃s,l[i]? =some s:=⟨_,AE (by rw[HN.out];exact hi)⟩;obtain⟨b,o,rfl,hb,xH⟩:=HR.out.cells (by intro e;have:=AY sgc 23 l (C0 l);rw[e,HN.out]at this;simp at this;omega);clear xH;have x1:AK wr b (o+i*23) 23=some s.cells:=(HR.out.below hbw).sgRow hs;have HS:=AA hs;clear hs;go_upto_region 5 with(refine AJ rfl 62 (.tmp 5) (.tmp 12) rfl wr.heap.size s.cells rfl rfl 62 BI (Blk.new wr _ _) (by rw[s.size_cells];rfl) (by rw[s.size_cells];kernel_rfl) (fun u hu=>s.one u hu) ?_;intro w4 hB4 hg4 xb)
   have xJ:Hid (w4.ownsRow w.heap.size 46 22 u3 i T):=Ba (xF.out.alloc _) hg4 (fun k hk=>by
    injection hk with hk
    subst hk;right;intro e;have:=(xF.out.lt _ e).2;omega)
   have xI:Wx w w4:=(hbw.alloc hbw.size _).grown hg4 (AG hbw.size (by simp)) (Wt hbw.size);have hw4:w4.heap.size=wr.heap.size+1:=by rw[xb];simp
   have HBx:=AA hB4;obtain⟨q,hq⟩:=Wr wr.heap.size;rw[<-hq]at HBx hw4 ⊢;have x4:AK w4 q 0 22=some s.vote.cells:=s.row_vote HBx.out;have hw5:q<w4.heap.size:=by omega
   clear hB4 hg4 xb x1 hq xF hbw hw4;go_frame;go_wp2_with ((first
    |(refine BQ rfl 56 46 (.tmp 15) rfl s.vote.cells rfl underlying56 (by kernel_rfl) (by decide) (by decide) ?_)
    |(at_builtin;refine Ar rfl (.tmp 13) (.tmp 16) _ rfl w.heap.size 46 (.agg Bk.cells) 22 64 underlying56 CE rfl (by decide) u3 i T rfl ?r0 (w4.heap.size+1) (some ⟨w4.heap.size,0,none⟩) 1 1 (vtc s.vote) rfl ?r1 ?r2 ?r3 ?r4 ?r5 ?r6 ?_)))
   case r0=>exact xJ.out.alloc _
   case r1=>rfl
   case r2=>exact Rd.mk (by omega) (fun j u hu=>by rw[Nat.zero_add,(Blk.new w4 _ _).cell];simpa using hu)
   case r3=>exact fun u hu=>BH s.vote hu
   case r4=>omega
   case r5=>unfold maxLen;omega
   case r6=>have:=xI.size;simp;omega
   intro v3 w3 xC hg3 zO;have xT:Wx w w3:=BO (xI.alloc xI.size _) (xJ.out.alloc _) hg3;have yH:=AA xC;clear xC hg3 zO;go_wp2;go_roundw
   case rel=>
    refine⟨i+1,by go_num,by omega,?_,xT⟩;have h:=yH.out;rw[HT.out]at h;rw[Ah,HS.out,Ad,Af];simpa using h
   case measure=>simp[intOf];omega
  ·obtain rfl:n=i:=by omega
   have HT:Hid (l.take n=l):=by unfold Hid;rw[<-HN.out,List.take_length]
   rw[HT.out]at xB;have yD:=AA xB;clear xB;go_wp2;go_ret;refine⟨_,rfl,hb0.trans (hbw.mono hb0.size),?_⟩;have h:=BS yD.out hb0.size;have e:l.map (·.vote)=D.map (·.1):=by rw[<-HE.out,List.map_map];rfl
   rw[<-e,Ab,HN.out];exact h
end
section
open Go.RowKit Go.Shelf
attribute [local go_sem ↓] Go.wp_at_zero Go.wp_at_succ Aq Au Av Aw
attribute [local go_sem] BE BL BM BN AR AX AU
noncomputable def vtT:TypeInfo:=(prog.info? 56).get (by kernel_rfl)
noncomputable def vtE:TypeInfo:=(prog.info? 46).get (by kernel_rfl)
theorem Vq(n:Nat)(h:2<=n):Lib.swapperK n vtE 25=9:=by
 have a:vtE.hasPointers=false:=by kernel_rfl
 have b:vtE.bytes=64:=by kernel_rfl
 have c0:(n==0)=false:=by simp;omega
 have c1:(n==1)=false:=by simp;omega
 unfold Lib.swapperK;rw[a,b,c0,c1];rfl
theorem Uj:prog.info? 56=some vtT:=by kernel_rfl
theorem Uk:prog.info? 46=some vtE:=by kernel_rfl
theorem Q5:vtT.desc= .slice 46:=by kernel_rfl
theorem Q6:vtE.size=22:=by kernel_rfl
theorem JR:SlT 56 46 22:=
 ⟨⟨vtT,Uj,Q5⟩,by kernel_rfl,⟨vtE,Uk,Q6,Vq⟩,fun _=>by kernel_rfl,fun _=>by kernel_rfl⟩
instance:Inhabited Vt:=⟨Bk⟩
theorem JS(args:Array Value)(W:World):(callFunc 221 args).run prog W= .ok (.enter 221 args) W:=enters_of func221 (by kernel_rfl) rfl args W
theorem Fm{w:World}{b n:Nat}{e:TypeId}{v:Value}{m:Nat}{xs:List Value}(h:w.ownsRow b e m v n xs):(v= .slice none 0 0/\n=0/\xs=[])∨∃g cap T,v= .slice (some ⟨g,0,none⟩) n cap/\b<=g/\Blk w g e (xs++T).toArray/\n<=cap:=by
 rcases h.2 with⟨hv,h0⟩|⟨g,cap,cur,hv,hg,hh,h1,_,_,ht⟩
 ·exact .inl ⟨hv,h0,AQ (by rw[h.1,h0,Nat.zero_mul])⟩
 ·refine .inr ⟨g,cap,cur.toList.drop (n*m),hv,hg,?_,h1⟩;rw[<-ht,Aj];exact hh
end
section
open Go.RowKit Go.Shelf
def Bo(a b:Vt):Bool:=decide (a.choice=b.choice)&&decide (a.value=b.value)
def Df(M:Int)(q:Nat)(v:Vt)(C:List Vt)(p:Vt->Bool):Bool:=
 decide (bits .andNot .i64 v.support M=0)&&(decide (Ae (xOf v.support) 10=q)&&(CK (xOf v.support) 10).all fun i=>C.any fun w=>decide (w.signer=(i:Int))&&p w)
def Kq(v w:Vt):Bool:=decide (w.kind=1)&&Bo v w
def JT(v w:Vt):Bool:=decide (w.kind=2)&&Bo v w
def JU(v w:Vt):Bool:=decide (w.kind=4)&&(decide (w.round=v.round-1)&&Bo v w)
def I8(v w:Vt):Bool:=decide (w.kind=4)&&(decide (w.round=v.round-1)&&decide (w.choice=2))
def Kr(v w:Vt):Bool:=JU v w||I8 v w
def pIn(v w:Vt):Bool:=(xOf v.support).testBit w.signer.toNat&&JU v w
def Is(v w:Vt):Bool:=decide (w.kind=3)&&(decide (w.round=v.round-1)&&Bo v w)
def FP(v w:Vt):Bool:=decide (w.kind=3)&&decide (w.round=v.round)
def It(v w:Vt):Bool:=FP v w&&Bo v w
def Fn(M:Int)(q:Nat)(v:Vt)(C:List Vt):Bool:=
 if v.round=1 then decide (v.choice=0)||Df M q v C (JT v)else(Df M q v C (Kr v)&&C.any (pIn v))||(Df M q v C (I8 v)&&C.any (Is v))
def DN(v w:Vt):Bool:=FP v w&&(xOf v.support).testBit w.signer.toNat
def LR(v:Vt)(C:List Vt):Bool:=C.any fun w=>DN v w&&C.any fun u=>DN v u&&!Bo w u
def DD(M:Int)(q:Nat)(v:Vt)(C:List Vt):Bool:=
 if v.kind=1 then decide (v.signer=v.slot)else if v.kind=2 then C.any (Kq v)else if v.kind=3 then Fn M q v C else if v.choice=2 then Df M q v C (FP v)&&LR v C else Df M q v C (It v)
def C4(M:Int)(q:Nat)(v:Vt)(C:List Vt)(b:Bool):Prop:=b=((xOf M).testBit v.signer.toNat&&DD M q v C)
structure B5 (n0:Nat)(W0:World)(g:Nat)(lb:Array Value)(p:Vt->Bool):Prop where
 ent:∀args W,(callFunc g args).run prog W= .ok (.enter g args) W
 tells:∀V,Below n0 W0 V->∀v:Vt,AW v->Calls prog g (#[v.val]++lb) V (An V (p v))
theorem B5.later{n0 n1:Nat}{W0 W1:World}{g:Nat}{lb:Array Value}{p:Vt->Bool}(h:B5 n0 W0 g lb p)(hb:Below n0 W0 W1)(hn:n0<=n1):B5 n1 W1 g lb p:=
 ⟨h.ent,fun V hV v hv=>h.tells V (hb.trans (hV.mono hn)) v hv⟩
def G9(n0:Nat)(W0:World)(b:Nat)(v:Vt):Prop:=b<n0/\Blk W0 b 46 v.cells
theorem G9.below{n0:Nat}{W0 V:World}{b:Nat}{v:Vt}(h:G9 n0 W0 b v)(hV:Below n0 W0 V):Blk V b 46 v.cells:=h.2.below hV h.1
theorem EB(a b:Vt)(w:World):Calls prog 224 #[a.val,b.val] w (An w (Bo a b)):=by
 obtain⟨k1,hk1⟩:=Wr (decide (a.choice=b.choice));obtain⟨k2,hk2⟩:=Wr (decide (a.value=b.value));have hr:Bo a b=(k1&&k2):=by rw[hk1,hk2];rfl
 have e1:(a.choice==b.choice)=k1:=by rw[hk1];rfl
 have e2:∀W,(Op.equalIn 10000 24 a.value.val b.value.val).run prog W= .ok k2 W:=fun W=>by rw[hk2];exact EW a.value b.value W 9998
 have Hr:=AA hr;clear hk1 hk2 hr;cases k1
 ·go_enter func224,ntmps224;go_wp2;go_ret;exact⟨by rw[Hr.out];rfl,((AC _ _).alloc (AB _) _).alloc (by simp) _⟩
 ·skip
  cases k2
  ·go_enter func224,ntmps224;go_wp2;go_ret;exact⟨by rw[Hr.out];rfl,((AC _ _).alloc (AB _) _).alloc (by simp) _⟩
  ·go_enter func224,ntmps224;go_wp2;go_ret;exact⟨by rw[Hr.out];rfl,((AC _ _).alloc (AB _) _).alloc (by simp) _⟩
attribute [local go_sem ↓] Go.wp_at_zero Go.wp_at_succ Aq Au Av Aw
attribute [local go_sem] BE BL BM BN AR AX AU
theorem Q7(v:Vt)(b n0:Nat)(W0:World)(hb:G9 n0 W0 b v):B5 n0 W0 223 #[.pointer (some ⟨b,0,none⟩)] (Kq v):=by
 refine⟨enters_of func223 (by kernel_rfl) rfl,fun V hV u hu=>?_⟩;have hB:=hb.below hV;have hB1:=hB.alloc (Obj.cells u.cells 46);have x0:=hB1.row 22 rfl;have x1:=(Blk.new V 46 u.cells).row 22 rfl;have HS:Hid (∀W,Calls prog 224 #[v.val,u.val] W (An W (Bo v u))):=fun W=>EB v u W
 obtain⟨k1,hk1⟩:=Wr (decide (u.kind=1));have hr:Kq v u=(k1&&Bo v u):=by rw[hk1];rfl
 have e1:(u.kind==1)=k1:=by rw[hk1];rfl
 obtain⟨k2,hk2⟩:=Wr (Bo v u);rw[<-hk2]at HS hr;have hbw:Wx V (V.alloc (Obj.cells u.cells 46)):=(AC _ _).alloc (AB _) _;have Hr:=AA hr;clear hk1 hk2 hr hb hB hV hu hB1;cases k1
 ·go_enter func223,ntmps223;go_wp2;go_ret;exact⟨by rw[Hr.out];rfl,hbw⟩
 ·go_enter func223,ntmps223;go_wp2_with (go_at_call 224;refine(HS.out _).mono ?_;rintro en w2 ⟨rfl,hb2⟩)
  go_ret;exact⟨by rw[Hr.out];rfl,hbw.trans (hb2.mono hbw.size)⟩
theorem Q8(v:Vt)(b n0:Nat)(W0:World)(hb:G9 n0 W0 b v):B5 n0 W0 258 #[.pointer (some ⟨b,0,none⟩)] (JT v):=by
 refine⟨enters_of func258 (by kernel_rfl) rfl,fun V hV u hu=>?_⟩;have hB:=hb.below hV;have hB1:=hB.alloc (Obj.cells u.cells 46);have x0:=hB1.row 22 rfl;have x1:=(Blk.new V 46 u.cells).row 22 rfl;have HS:Hid (∀W,Calls prog 224 #[v.val,u.val] W (An W (Bo v u))):=fun W=>EB v u W
 obtain⟨k1,hk1⟩:=Wr (decide (u.kind=2));have hr:JT v u=(k1&&Bo v u):=by rw[hk1];rfl
 have e1:(u.kind==2)=k1:=by rw[hk1];rfl
 obtain⟨k2,hk2⟩:=Wr (Bo v u);rw[<-hk2]at HS hr;have hbw:Wx V (V.alloc (Obj.cells u.cells 46)):=(AC _ _).alloc (AB _) _;have Hr:=AA hr;clear hk1 hk2 hr hb hB hV hu hB1;cases k1
 ·go_enter func258,ntmps258;go_wp2;go_ret;exact⟨by rw[Hr.out];rfl,hbw⟩
 ·go_enter func258,ntmps258;go_wp2_with (go_at_call 224;refine(HS.out _).mono ?_;rintro en w2 ⟨rfl,hb2⟩)
  go_ret;exact⟨by rw[Hr.out];rfl,hbw.trans (hb2.mono hbw.size)⟩
theorem S9(v:Vt)(hv:1<=v.round/\v.round<=12)(b n0:Nat)(W0:World)(hb:G9 n0 W0 b v):B5 n0 W0 259 #[.pointer (some ⟨b,0,none⟩)] (JU v):=by
 refine⟨enters_of func259 (by kernel_rfl) rfl,fun V hV u hu=>?_⟩;have hB:=hb.below hV;have hB1:=hB.alloc (Obj.cells u.cells 46);have x0:=hB1.row 22 rfl;have x1:=(Blk.new V 46 u.cells).row 22 rfl;have c2:(V.alloc (Obj.cells u.cells 46)).cell? ⟨b,2,none⟩=some (I v.round):=hB1.cell 2;have HS:Hid (∀W,Calls prog 224 #[v.val,u.val] W (An W (Bo v u))):=fun W=>EB v u W
 obtain⟨k1,hk1⟩:=Wr (decide (u.kind=4));obtain⟨k2,hk2⟩:=Wr (decide (u.round=v.round-1));obtain⟨k3,hk3⟩:=Wr (Bo v u);have hr:JU v u=(k1&&(k2&&k3)):=by rw[hk1,hk2,hk3];rfl
 have e1:(u.kind==4)=k1:=by rw[hk1];rfl
 have e2:(u.round==v.round-1)=k2:=by rw[hk2];rfl
 obtain⟨v1,v2⟩:=hv;rw[<-hk3]at HS;have hbw:Wx V (V.alloc (Obj.cells u.cells 46)):=(AC _ _).alloc (AB _) _;have Hr:=AA hr;clear hk1 hk2 hk3 hr hb hB hV hu hB1;cases k1
 ·go_enter func259,ntmps259;go_wp2;go_ret;exact⟨by rw[Hr.out];rfl,hbw⟩
 ·skip
  cases k2
  ·go_enter func259,ntmps259;go_wp2;go_ret;exact⟨by rw[Hr.out];rfl,hbw⟩
  ·go_enter func259,ntmps259;go_wp2_with (go_at_call 224;refine(HS.out _).mono ?_;rintro en w2 ⟨rfl,hb2⟩)
   go_ret;exact⟨by rw[Hr.out];rfl,hbw.trans (hb2.mono hbw.size)⟩
theorem TA(v:Vt)(hv:1<=v.round/\v.round<=12)(b n0:Nat)(W0:World)(hb:G9 n0 W0 b v):B5 n0 W0 260 #[.pointer (some ⟨b,0,none⟩)] (I8 v):=by
 refine⟨enters_of func260 (by kernel_rfl) rfl,fun V hV u hu=>?_⟩;have hB:=hb.below hV;have hB1:=hB.alloc (Obj.cells u.cells 46);have x0:=hB1.row 22 rfl;have x1:=(Blk.new V 46 u.cells).row 22 rfl;have c2:(V.alloc (Obj.cells u.cells 46)).cell? ⟨b,2,none⟩=some (I v.round):=hB1.cell 2;obtain⟨k1,hk1⟩:=Wr (decide (u.kind=4));obtain⟨k2,hk2⟩:=Wr (decide (u.round=v.round-1));obtain⟨k3,hk3⟩:=Wr (decide (u.choice=2));have hr:I8 v u=(k1&&(k2&&k3)):=by rw[hk1,hk2,hk3];rfl
 have e1:(u.kind==4)=k1:=by rw[hk1];rfl
 have e2:(u.round==v.round-1)=k2:=by rw[hk2];rfl
 obtain⟨v1,v2⟩:=hv;have e3:(u.choice==2)=k3:=by rw[hk3];rfl
 have hbw:Wx V (V.alloc (Obj.cells u.cells 46)):=(AC _ _).alloc (AB _) _;have Hr:=AA hr;clear hk1 hk2 hk3 hr hb hB hV hu hB1;cases k1
 ·go_enter func260,ntmps260;go_wp2;go_ret;exact⟨by rw[Hr.out];rfl,hbw⟩
 ·skip
  cases k2
  ·go_enter func260,ntmps260;go_wp2;go_ret;exact⟨by rw[Hr.out];rfl,hbw⟩
  ·go_enter func260,ntmps260;go_wp2;go_ret;exact⟨by rw[Hr.out];rfl,hbw⟩
theorem Q9(v:Vt)(hv:1<=v.round/\v.round<=12)(b n0:Nat)(W0:World)(hb:G9 n0 W0 b v):B5 n0 W0 263 #[.pointer (some ⟨b,0,none⟩)] (Is v):=by
 refine⟨enters_of func263 (by kernel_rfl) rfl,fun V hV u hu=>?_⟩;have hB:=hb.below hV;have hB1:=hB.alloc (Obj.cells u.cells 46);have x0:=hB1.row 22 rfl;have x1:=(Blk.new V 46 u.cells).row 22 rfl;have c2:(V.alloc (Obj.cells u.cells 46)).cell? ⟨b,2,none⟩=some (I v.round):=hB1.cell 2;have HS:Hid (∀W,Calls prog 224 #[v.val,u.val] W (An W (Bo v u))):=fun W=>EB v u W
 obtain⟨k1,hk1⟩:=Wr (decide (u.kind=3));obtain⟨k2,hk2⟩:=Wr (decide (u.round=v.round-1));obtain⟨k3,hk3⟩:=Wr (Bo v u);have hr:Is v u=(k1&&(k2&&k3)):=by rw[hk1,hk2,hk3];rfl
 have e1:(u.kind==3)=k1:=by rw[hk1];rfl
 have e2:(u.round==v.round-1)=k2:=by rw[hk2];rfl
 obtain⟨v1,v2⟩:=hv;rw[<-hk3]at HS;have hbw:Wx V (V.alloc (Obj.cells u.cells 46)):=(AC _ _).alloc (AB _) _;have Hr:=AA hr;clear hk1 hk2 hk3 hr hb hB hV hu hB1;cases k1
 ·go_enter func263,ntmps263;go_wp2;go_ret;exact⟨by rw[Hr.out];rfl,hbw⟩
 ·skip
  cases k2
  ·go_enter func263,ntmps263;go_wp2;go_ret;exact⟨by rw[Hr.out];rfl,hbw⟩
  ·go_enter func263,ntmps263;go_wp2_with (go_at_call 224;refine(HS.out _).mono ?_;rintro en w2 ⟨rfl,hb2⟩)
   go_ret;exact⟨by rw[Hr.out];rfl,hbw.trans (hb2.mono hbw.size)⟩
theorem LS(v:Vt)(b n0:Nat)(W0:World)(hb:G9 n0 W0 b v):B5 n0 W0 264 #[.pointer (some ⟨b,0,none⟩)] (FP v):=by
 refine⟨enters_of func264 (by kernel_rfl) rfl,fun V hV u hu=>?_⟩;have hB:=hb.below hV;have hB1:=hB.alloc (Obj.cells u.cells 46);have c2:(V.alloc (Obj.cells u.cells 46)).cell? ⟨b,2,none⟩=some (I v.round):=hB1.cell 2;obtain⟨k1,hk1⟩:=Wr (decide (u.kind=3));obtain⟨k2,hk2⟩:=Wr (decide (u.round=v.round));have hr:FP v u=(k1&&k2):=by rw[hk1,hk2];rfl
 have e1:(u.kind==3)=k1:=by rw[hk1];rfl
 have e2:(u.round==v.round)=k2:=by rw[hk2];rfl
 have hbw:Wx V (V.alloc (Obj.cells u.cells 46)):=(AC _ _).alloc (AB _) _;have Hr:=AA hr;clear hk1 hk2 hr hb hB hV hu hB1;cases k1
 ·go_enter func264,ntmps264;go_wp2;go_ret;exact⟨by rw[Hr.out];rfl,hbw⟩
 ·go_enter func264,ntmps264;go_wp2;go_ret;exact⟨by rw[Hr.out];rfl,hbw⟩
theorem Ha(M:Int)(q nC:Nat)(A:Option Addr)(c:Nat)(C:List Vt)(g:Nat)(lb:Array Value)(p:Vt->Bool)(w:World)(hn:C.length=nC)(hr:Rd w w.heap.size A (C.flatMap vtc))(hv:∀v∈C,AW v)(hf:B5 w.heap.size w g lb p)(hsm:nC<=1000000):Calls prog 222 #[.agg #[.int .i64 M,.int .i64 (q:Int),.slice A nC c],.func (.func g) #[] lb] w (An w (C.any p)):=by
 have HN:=AA hn;have HR:=AA hr;have HV:=AA hv;have HF:=AA hf;clear hn hr hv hf;have yP:Wx w (w.alloc (.cells #[.int .i64 M,.int .i64 (q:Int),.slice A nC c] 269)):=(AC _ _).alloc (AB _) _;go_enter func222,ntmps222;go_wp2
 go_loopw [10] (fun iv wr=>∃i:Nat,iv= .int .i64 (i:Int)/\i<=nC/\(C.take i).any p=false/\Wx w wr) (fun iv _=>nC-(intOf iv).toNat)
 case atStart=>exact⟨0,rfl,by omega,by simp,yP⟩
 case round=>
  obtain⟨i,rfl,hin,hno,hbw⟩:=hrel;have HNo:=AA hno;clear hno;by_cases hi:i<nC
  ·have di:=Wu (show i<nC by omega)
   have ik:(i:Int)<(nC:Int):=by omega
   have hil:i<=1000000:=by omega
   obtain⟨v,hvi⟩:∃v,C[i]? =some v:=⟨_,AE (by rw[HN.out];exact hi)⟩;obtain⟨b,o,rfl,hb,xH⟩:=HR.out.cells (by intro e;have:=AY vtc 22 C (CI C);rw[e,HN.out]at this;simp at this;omega);clear xH;have x1:AK wr b (o+i*22) 22=some v.cells:=(HR.out.below hbw).voteRow hvi;have HP:=AA HF.out.tells;have eg:=HF.out.ent;have hvv:=HV.out v (AN hvi);have ya:Hid ((C.take (i+1)).any p=((C.take i).any p||p v)):=by
    unfold Hid;rw[Ah,hvi,List.any_append];simp
   have HAny:Hid (p v=true->C.any p=true):=fun h=>List.any_eq_true.2 ⟨v,AN hvi,h⟩
   clear hvi;have HVv:=AA hvv;clear hvv;obtain⟨pv,hpv⟩:=Wr (p v);have HPv:=AA hpv;clear hpv;go_upto_region 4 with(refine AJ rfl 46 (.tmp 6) (.tmp 13) rfl wr.heap.size v.cells rfl rfl 46 Bk.cells (Blk.new wr _ _) (by rfl) (by kernel_rfl) (fun u hu=>BH v hu) ?_;intro w4 hB4 hg4 xb)
   have xI:Wx w w4:=(hbw.alloc hbw.size _).grown hg4 (AG hbw.size (by simp)) (Wt hbw.size);have x4:=hB4.row 22 rfl;clear x1 hB4 hg4 xb;try go_frame
   go_wp2_with fail
   refine(HP.out _ xI v HVv.out).mono ?_;rw[<-HPv.out];rintro en w5 ⟨rfl,hb5⟩;have xS:=xI.trans (hb5.mono xI.size);cases pv with
   |true=>
    go_wp2;go_ret;exact⟨by rw[HAny.out HPv.out.symm];rfl,xS⟩
   |false=>
    go_wp2;go_roundw
    case rel=>exact⟨i+1,by go_num,by omega,by rw[ya.out,HNo.out,<-HPv.out];rfl,xS⟩
    case measure=>simp[intOf];omega
  ·have di:=Wv (show nC<=i by omega)
   have hAj:i=nC:=by omega
   go_wp2;go_ret;refine⟨?_,hbw⟩;have:=HNo.out;rw[hAj,<-HN.out,List.take_length]at this;rw[this];rfl
end
end Go.Proofs.YtadllffeoibelaaGreat
