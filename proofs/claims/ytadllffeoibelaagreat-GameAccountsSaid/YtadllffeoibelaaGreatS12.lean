/-
  Parts of the proof. No condition.
-/
import Derived.Lib.Bytealg
import Derived.Lib.BytesEntry
import Derived.Test.YtadllffeoibelaaGreatS11
open Go.Proofs.Tryz
namespace Go.Proofs.YtadllffeoibelaaGreat
set_option maxRecDepth 100000
set_option maxHeartbeats 32000000
set_option linter.all false
section
open Go.RowKit
attribute [local go_sem ↓] Go.wp_at_zero Go.wp_at_succ Aj Ao Ap Aq
attribute [local go_sem] Ax BB BC BD AK AR AN
theorem Jf:∀a b:List UInt8,decide (Lib.compareBytes a b<0)=Op.bytesLess a b
 |[],[]=>rfl
 |[],_::_=>rfl
 |_::_,[]=>rfl
 |x::a,y::b=>by
  rw[Lib.compareBytes,Op.bytesLess,<-Jf a b];by_cases h1:x<y
  ·simp[h1]
  ·by_cases h2:y<x
   ·have hne:¬x=y:=fun e=>by subst e;exact h1 h2
    simp[h1,h2,hne]
   ·have e:x=y:=by
     rw[UInt8.lt_iff_toNat_lt]at h1 h2;exact UInt8.toNat_inj.1 (by omega)
    subst e;simp[h1]
theorem Jg(w:World)(B':Nat)(A:Option Addr)(c:Nat)(l:List UInt8)(hr:Rd w B' A (l.map B)):(Extern.Bytes.bytesOf (.slice A l.length c)).run prog w= .ok ⟨l.toArray⟩ w:=by
 rcases A with _|a
 ·have hl:l=[]:=by
   rcases hr with h|⟨b,o,h,_⟩
   ·simpa using h
   ·cases h
  subst hl;rfl
 ·have h:=Lib.run_loadBytesX (P:=prog) w (l.map fun b=>(b.toNat:Int)) a .empty (fun j x hx=>by
   rw[AQ]at hx;rcases hl:l[j]? with _|y
   ·rw[hl]at hx;cases hx
   ·rw[hl]at hx;cases hx
    rcases hr with h|⟨b,o,h,_,hc⟩
    ·simp at h;subst h;simp at hl
    ·injection h with h;subst h
     rw[Addr.add_mid];exact hc j _ (by rw[AQ,hl];rfl))
  have e:Lib.bytesOf (l.map fun b=>(b.toNat:Int))=l:=by
   unfold Lib.bytesOf;rw[List.map_map]
   conv=>rhs;rw[<-List.map_id l]
   apply List.map_congr_left;intro b _;simp
  rw[e,AX]at h;simpa[Extern.Bytes.bytesOf]using h
theorem VE(w:World)(B':Nat)(A A':Option Addr)(c c':Nat)(l l':List UInt8)(hr:Rd w B' A (l.map B))(hr':Rd w B' A' (l'.map B)):(callFunc 181 #[.slice A l.length c,.slice A' l'.length c']).run prog w= .ok (.value (.int .i64 (Lib.compareBytes l l'))) w:=by
 have h:(Extern.BytealgCompare.compare #[.slice A l.length c,.slice A' l'.length c']).run prog w= .ok (.int .i64 (Lib.compareBytes l l')) w:=by
  change Sem.run prog (do pure (goInt (Extern.BytealgCompare.cmp (<-Extern.Bytes.bytesOf (.slice A l.length c)) (<-Extern.Bytes.bytesOf (.slice A' l'.length c'))))) w=_;simp only[Sem.run_bind,Sem.run_pure,Result.andThen,Jg w B' A c l hr,Jg w B' A' c' l' hr'];rw[Lib.cmp_eq];rfl
 rw[run_callFunc_extern func181 (by kernel_rfl) (by kernel_rfl) (by kernel_rfl) (e:=Extern.BytealgCompare.compare) (by kernel_rfl),h];rfl
theorem Sv(w:World)(B':Nat)(A A':Option Addr)(n n' c c':Nat)(l l':List UInt8)(hn:l.length=n)(hn':l'.length=n')(hr:Rd w B' A (l.map B))(hr':Rd w B' A' (l'.map B)):Calls prog 124 #[.slice A n c,.slice A' n' c'] w fun e w'=>e= .returned (.int .i64 (Lib.compareBytes l l'))/\w'=w:=by
 have h:=VE w B' A A' c c' l l' hr hr';rw[hn,hn']at h;clear hr hr' hn hn';go_enter func124,ntmps124;go_wp2;go_ret;exact⟨rfl,rfl⟩
theorem RX(a b:Sg)(w:World)(ha:D3 w w.heap.size a)(hb:D3 w w.heap.size b):Calls prog 83 #[a.val,b.val] w (Ac w (Dn a.vs b.vs)):=by
 have HL:Hid (∀W,Calls prog 109 #[a.vote.val,b.vote.val] W (Ac W (BU a.vote b.vote))):=fun W=>Gl a.vote b.vote W
 have HC:Hid (∀W,ZN w W->Calls prog 124 #[.slice a.A a.sig.length a.cap,.slice b.A b.sig.length b.cap] W fun e w'=>e= .returned (.int .i64 (Lib.compareBytes a.sig b.sig))/\w'=W):=
  fun W hW=>Sv W w.heap.size a.A b.A _ _ a.cap b.cap a.sig b.sig rfl rfl (ha.2.1.below hW) (hb.2.1.below hW)
 obtain⟨k,hk⟩:=ZH (decide (a.vote=b.vote));have e1:∀W,(Op.equalIn 10000 46 (.agg a.vote.cells) (.agg b.vote.cells)).run prog W= .ok k W:=fun W=>by rw[hk];exact U1 a.vote b.vote W
 obtain⟨r,hr⟩:=ZH (Dn a.vs b.vs);rw[<-hr];have HR:=AA hr;have HK:=AA hk;have hB1:Blk ((w.alloc (.cells a.cells 62)).alloc (.cells b.cells 62)) w.heap.size 62 a.cells:=(Blk.new w _ _).alloc _;have hB2:Blk ((w.alloc (.cells a.cells 62)).alloc (.cells b.cells 62)) (w.alloc (.cells a.cells 62)).heap.size 62 b.cells:=Blk.new _ _ _;have x1:=a.row_vote hB1;have x2:=b.row_vote hB2;have y1:((w.alloc (.cells a.cells 62)).alloc (.cells b.cells 62)).cell? ⟨w.heap.size,22,none⟩=some (.slice a.A a.sig.length a.cap):=(hB1.cell 22).trans a.cell_sig;have y2:((w.alloc (.cells a.cells 62)).alloc (.cells b.cells 62)).cell? ⟨(w.alloc (.cells a.cells 62)).heap.size,22,none⟩=some (.slice b.A b.sig.length b.cap):=(hB2.cell 22).trans b.cell_sig;have hDj:ZN w ((w.alloc (.cells a.cells 62)).alloc (.cells b.cells 62)):=((AC _ _).alloc (AB _) _).alloc (by simp) _;clear hr hk ha hb hB1 hB2;simp at x2 y2;go_enter func83,ntmps83;cases k with
 |true=>
  go_wp2_with fail
  refine(HC.out _ hDj).mono ?_;rintro en w2 ⟨rfl,rfl⟩;go_wp2;go_ret;refine⟨?_,hDj⟩;have hv:a.vote=b.vote:=of_decide_eq_true HK.out.symm;rw[HR.out];unfold Dn;rw[if_pos hv,<-Jf];rfl
 |false=>
  go_wp2_with fail
  refine(HL.out _).mono ?_;rintro en w2 ⟨rfl,hb2⟩;go_wp2;go_ret;refine⟨?_,hDj.trans (hb2.mono hDj.size)⟩;have hv:¬a.vote=b.vote:=of_decide_eq_false HK.out.symm;rw[HR.out];unfold Dn;rw[if_neg hv];rfl
theorem Bo.blk{w w':World}{b g:Nat}{s:Sg}{cs:Array Value}(h:Bo w b s)(hB:Blk w g 62 cs)(hg:w.grownBy w' (some g)):Bo w' b s:=by
 refine⟨h.1,⟨h.2.1.1,?_⟩,h.2.2⟩;rcases h.2.1.2 with h0|⟨g',cap,cur,hv,hgb,hh,r⟩
 ·exact .inl h0
 ·refine .inr ⟨g',cap,cur,hv,hgb,(hg.block g' (lt_of_block hh) ?_).trans hh,r⟩;intro e;injection e with e
  subst e;unfold Blk at hB;rw[hB]at hh;injection hh with hh
  injection hh with _ ht
  exact absurd ht (by decide)
def ltS(x y:Sg):Bool:=Dn x.vs y.vs
theorem VF:Ord ltS:=⟨fun x y h=>JT.asymm x.vs y.vs h,fun x y z h h'=>JT.trans x.vs y.vs z.vs h h'⟩
theorem Row.sg{w0 W:World}{g i:Nat}{l:List Sg}{x:Sg}(h:Row sgc 62 w0 g l W)(hx:l[i]? =some x):AJ W g (i*23) 23=some x.cells:=by
 refine Bq (fun j u hu=>?_) x.size_cells;have hj:j<23:=by
  have:=(AE.1 hu).1;rwa[Array.length_toList,x.size_cells]at this
 rw[h.blk.cell,List.getElem?_toArray,B4 sgc 23 l (Cc l) i j x hx hj,<-hu]
theorem PF(B g n c b:Nat)(l0:List Sg)(w0:World)(cs:Array Value)(hB:Blk w0 B 50 #[.slice (some ⟨g,0,none⟩) n c])(hne:B≠g)(xA:∀s∈l0,Bo w0 b s)(hg:Blk w0 g 62 cs)(hn:l0.length=n):Ej sgc 62 w0 g l0 ltS 82 #[.pointer (some ⟨B,0,none⟩)]:=by
 intro W l i j x y hr hp hx hy;have hi:i<n:=by rw[<-hn,<-hp.length_eq];exact(AE.1 hx).1
 have hj:j<n:=by rw[<-hn,<-hp.length_eq];exact(AE.1 hy).1
 have ok:∀s∈l,D3 W W.heap.size s:=fun s hs=>((xA s (hp.mem_iff.1 hs)).blk hg hr.kept).ok.1
 have hc0:W.cell? ⟨B,0,none⟩=some (.slice (some ⟨g,0,none⟩) n c):=(hr.box hB hne).cell 0;have xT:Hid (∀V,ZN W V->V.cell? ⟨B,0,none⟩=some (.slice (some ⟨g,0,none⟩) n c)/\AJ V g (i*23) 23=some x.cells/\AJ V g (j*23) 23=some y.cells):=
  fun V hV=>⟨(hV.cell (p:=⟨B,0,none⟩) (hr.box hB hne).lt).trans hc0,BH (hr.sg hx) hV hr.blk.lt,BH (hr.sg hy) hV hr.blk.lt⟩
 have HL:Hid (∀V,ZN W V->Calls prog 83 #[x.val,y.val] V (Ac V (ltS x y))):=
  fun V hV=>RX x y V (((ok x (AM hx)).below hV).more hV.size) (((ok y (AM hy)).below hV).more hV.size)
 obtain⟨r,hrr⟩:=ZH (ltS x y);rw[<-hrr]at HL ⊢;clear hrr hc0 ok hr hp hx hy xA hg hB hn;have hbw:ZN W W:=AC _ _;show Calls prog 82 #[.int .i64 (i:Int),.int .i64 (j:Int),.pointer (some ⟨B,0,none⟩)] W _;go_enter func82,ntmps82;go_upto_region 1 with fail
 refine rgD (fun w'=>w'.cell? ⟨B,0,none⟩=some (.slice (some ⟨g,0,none⟩) n c)/\AJ w' g (i*23) 23=some x.cells/\AJ w' g (j*23) 23=some y.cells) (xT.out _ hbw.drew) fun _=>?_
 iterate 8 (refine tkA ?_;go_frame)
 refine rd1 8 fun K hK=>?_
 go_simp;refine(HL.out _ hbw.drew).mono ?_;rintro en w2 ⟨rfl,hb2⟩;have xB:=hbw.drew.trans (hb2.mono hbw.size);go_wp2_with fail
 refine hK.out _ _ (xT.out _ xB) (fun _=>?_);clear hK K;try go_frame
 refine tkD 5 9 ?_;go_frame;refine dnD ?_;go_wp2;go_ret;exact⟨rfl,xB⟩
def Co:Sg:=⟨Bi,[],none,0⟩
theorem Ma:Co.cells=Al:=rfl
theorem VG(n:Nat):madeCells (Value.cells (.agg Al)) (n*23)=((List.replicate n Co).flatMap sgc).toArray:=by
 have hl:((List.replicate n Co).flatMap sgc).length=n*23:=by
  rw[AY sgc 23 _ (fun s _=>Cc [s] s (by simp)),List.length_replicate]
 apply Array.ext
 ·rw[size_madeCells];simpa using hl.symm
 ·intro k h1 h2;rw[size_madeCells]at h1;have hk:k/23<n:=by omega
  have hg:=B4 sgc 23 (List.replicate n Co) (fun s _=>Cc [s] s (by simp)) (k/23) (k%23) Co (by rw[List.getElem?_replicate,if_pos hk]) (by omega);rw[show k/23*23+k%23=k from by omega]at hg;have e1:((List.replicate n Co).flatMap sgc).toArray[k]? =(sgc Co)[k%23]?:=by rw[List.getElem?_toArray,hg]
  have e2:(madeCells (Value.cells (.agg Al)) (n*23))[k]? =Al[k%23]?:=by
   have hz:k%23<Al.size:=by show k%23<23;omega
   rw[madeCells,Array.getElem?_map,Array.getElem?_range,if_pos h1];show some (Al[k%23]!)=_;rw[Array.getElem?_eq_getElem hz,getElem!_pos Al _ hz]
  have e3:(sgc Co)[k%23]? =Al[k%23]?:=by
   show(Co.cells.toList)[k%23]? =_;rw[Ma,Array.getElem?_toList]
  have e4:(madeCells (Value.cells (.agg Al)) (n*23))[k]? =((List.replicate n Co).flatMap sgc).toArray[k]?:=by rw[e2,e1,e3]
  rw[Array.getElem?_eq_getElem (by rw[size_madeCells];exact h1),Array.getElem?_eq_getElem h2]at e4;exact Option.some.inj e4
theorem NX{op:Oper}{a:Act}{w w0:World}{K:Act->World->Prop}{Q:Exit->Act->World->Prop}(x y:Operand)(ho:op.op= .store 62 x y)(g i:Nat)(s:Sg)(hx:a.eval x= .pointer (some ⟨g,i*23,none⟩))(hy:a.eval y=s.val)(l:List Sg)(hR:Row sgc 62 w0 g l w)(hi:i<l.length)(hd:op.dst=none)(h:∀w',Row sgc 62 w g (l.set i s) w'->K a w'):op.wp prog a w K Q:=by
 have hlen:(l.flatMap sgc).length=l.length*23:=AY sgc 23 l (Cc l);have hb:i*23+23<=l.length*23:=by omega
 have hth:w.there g (i*23) 23:=fun j hj=>⟨by
  rw[hR.blk.cell,Array.getElem?_eq_getElem (by simp only[List.size_toArray];omega)];rfl,hR.blk.frozen _⟩
 refine wp_store_mid 62 x y ho g (i*23) s.cells hx hy (by rw[s.size_cells];exact hth) (by rw[s.size_cells];kernel_rfl) (Array.all_eq_true_iff_forall_mem.2 fun v hv=>s.one v (by simpa using hv)) ?_;obtain⟨b1,k1⟩:=DD g 62 s.cells.toList (i*23) w (l.flatMap sgc) hR.blk (by rw[Array.length_toList,s.size_cells,hlen];exact hb);rw[Array.length_toList,s.size_cells,<-GN sgc 23 l (Cc l) i s hi]at b1;rw[hd];exact h _ ⟨b1,k1⟩
def Sw(l:List Sg)(w w1:World)(g:Nat)(iv:Value)(wr:World):Prop:=
 ∃(i:Nat) (O:List Sg),iv= .int .i64 (i:Int)/\i<=l.length/\O.length=i/\O.map Sg.vs=(l.map Sg.vs).take i/\Row sgc 62 w1 g (O++List.replicate (l.length-i) Co) wr/\(∀s∈O,Bo wr w.heap.size s)
def VH(l:List Sg)(w3:World)(v iv:Value)(wr:World):Prop:=
 ∃(i:Nat),iv= .int .i64 (i:Int)/\i<=l.length/\wr.ownsRow w3.heap.size 62 23 v (Di Sg.vote l i).length ((Di Sg.vote l i).flatMap sgc)/\ZN w3 wr
theorem Lw{l:List Sg}{i:Nat}{x:Sg}(hx:l[i]? =some x):Di Sg.vote l (i+1)=Di Sg.vote l i++if(i=0∨(l[i-1]?.map Sg.vote)≠some x.vote)then[x]else[]:=by rw[Di,hx]
theorem NY{l:List Sg}:∀{i:Nat} {s:Sg},s∈Di Sg.vote l i->s∈l
 |0,s,h=>by cases h
 |i+1,s,h=>by
  rw[Di]at h;rcases AP.1 h with h|h
  ·exact NY h
  ·rcases hl:l[i]? with _|x
   ·rw[hl]at h;cases h
   ·rw[hl]at h;simp only at h;split at h
    ·rw[AU.1 h];exact AM hl
    ·cases h
theorem PG(args:Array Value)(W:World):(callFunc 82 args).run prog W= .ok (.enter 82 args) W:=by
 go_simp
theorem Row.far{α:Type}{c:α->List Value}{t:TypeId}{w0 w w':World}{g k:Nat}{l:List α}(h:Row c t w0 g l w)(hg:w.grownBy w' (some k))(hk:k≠g)(hk0:w0.heap.size<=k):Row c t w0 g l w':=
 ⟨h.blk.kept hg (by simpa using Ne.symm hk),h.kept.andThen hg (ZJ (.inl hk0))⟩
theorem Row.sgv{w0 W:World}{g i:Nat}{l:List Sg}{x:Sg}(h:Row sgc 62 w0 g l W)(hx:l[i]? =some x):AJ W g (i*23) 22=some x.vote.cells:=by
 have h1:=(Ds (h.sg hx)).2;refine Bq (fun j u hu=>h1 j u ?_) rfl;have:=x.cell_vote j u (by simpa using hu);simpa using this
theorem Bo.below{w w':World}{b B':Nat}{s:Sg}(h:Bo w b s)(hb:Below B' w w')(hB:w.heap.size<=B'):Bo w' b s:=⟨h.1,Ay h.2.1 hb hB,h.2.2⟩
theorem Jh{o:Oper}{a:Act}(v:Vt)(sig:List UInt8)(A:Option Addr)(c:Nat)(s t:Operand)(ho:o.op= .build 62 #[(0,s),(1,t)])(hs:a.eval s= .agg v.cells)(ht:a.eval t= .slice A sig.length c)(w:World):(execOp a.eval o).run prog w= .ok (.value (Sg.mk v sig A c).val) w:=by
 unfold Sg.val;rw[P9];unfold execOp;rw[ho];simp only[List.map_toArray,List.map_cons,List.map_nil,hs,ht];go_simp
def KR(w:World)(l:List VS)(e:Ending)(w':World):Prop:=
 ∃(L:List Sg) (v:Value),e= .returned v/\ZN w w'/\w'.ownsRow w.heap.size 62 23 v L.length (L.flatMap sgc)/\(∀s∈L,Bo w' w.heap.size s)/\L.map Sg.vs=B8 l
theorem JC(A:Option Addr)(n c:Nat)(l:List Sg)(w:World)(hn:l.length=n)(hr:Rd w w.heap.size A (l.flatMap sgc))(hok:CO w w.heap.size l)(xS:n<=1000000):Calls prog 46 #[.slice A n c] w (KR w (l.map Sg.vs)):=by
 have HN:=AA hn;clear hn;have HR:=AA hr;clear hr;have HOk:=AA hok;clear hok;obtain⟨i0,hi,hz0,hz1,hz2⟩:=info_parts CT;obtain⟨Z,hZ⟩:=ZH (((List.replicate n Co).flatMap sgc).toArray);have hmk:∀W:World,(Instr.makeSlice 50 (.int .i64 (n:Int)) (.int .i64 (n:Int))).run prog W= .ok (.slice (some ⟨W.heap.size,0,none⟩) n n) (W.alloc (.cells Z 62)):=fun W=>by
  have:=run_make (P:=prog) W 50 62 i0 _ underlying50 hi hz0 .i64 .i64 n n (by omega) (by omega) (by rw[hz2];omega) (by omega);rw[this,hz1,Int.toNat_natCast,VG,<-hZ]
 have HZ:=AA hZ;clear hZ hi hz0 hz1 hz2;go_enter func46,ntmps46;go_upto_region 2 with fail
 obtain⟨w1,hw1⟩:=ZH ((w.alloc (.cells Z 62)).alloc (.cells #[.slice (some ⟨w.heap.size,0,none⟩) n n] 50));rw[<-hw1];have xQ:ZN w w1:=by rw[hw1];exact((AC _ _).alloc (AB _) _).alloc (by simp) _
 have HB1:Hid (Blk w1 w.heap.size 62 ((List.replicate n Co).flatMap sgc).toArray):=by
  unfold Hid;rw[hw1,<-HZ.out];exact(Blk.new w _ _).alloc _
 have HB2:Hid (Blk w1 (w.heap.size+1) 50 #[.slice (some ⟨w.heap.size,0,none⟩) n n]):=by
  unfold Hid;rw[hw1];have:=Blk.new (w.alloc (.cells Z 62)) 50 #[.slice (some ⟨w.heap.size,0,none⟩) n n];simpa using this
 have hw1s:w1.heap.size=w.heap.size+2:=by rw[hw1];simp
 clear hw1 hmk HZ;clear Z;obtain⟨g,hg⟩:=ZH w.heap.size;obtain⟨p,hp⟩:=ZH (w.heap.size+1);rw[<-hp,<-hg];rw[<-hp,<-hg]at HB2;rw[<-hg]at HB1;have hpg:p≠g:=by omega
 have hgw:w.heap.size<=g:=by omega
 have hpw:w.heap.size<=p:=by omega
 have hg1:g<w1.heap.size:=by omega
 have hp1:p<w1.heap.size:=by omega
 clear hw1s hg hp;go_wp2
 go_loopw [14] (fun iv wr=>Sw l w w1 g iv wr) (fun iv _=>n-(intOf iv).toNat)
 case atStart=>
  refine⟨0,[],rfl,Nat.zero_le _,rfl,by simp,?_,fun s hs=>by cases hs⟩;rw[List.nil_append,Nat.sub_zero,HN.out];exact Row.self HB1.out
 case round=>
  obtain⟨i,O,rfl,hin,hOl,hO,xV,xA⟩:=hrel;rw[HN.out]at hin xV;have hbw:ZN w wr:=xQ.grown xV.kept xQ.size (ZJ hgw);have hc3:wr.cell? ⟨p,0,none⟩=some (.slice (some ⟨g,0,none⟩) n n):=(xV.box HB2.out hpg).cell 0;have hgwr:g<wr.heap.size:=xV.blk.lt;have hpwr:p<wr.heap.size:=(xV.box HB2.out hpg).lt;have hw1wr:w1.heap.size<=wr.heap.size:=xV.kept.size;have HO:=AA hO;have HOl:=AA hOl;have xh:=AA xV;have xK:=AA xA;clear hO hOl xV xA;by_cases hi:i<n
  ·have di:=ZK (show i<n by omega)
   obtain⟨s,hs⟩:∃s,l[i]? =some s:=⟨_,AD (by rw[HN.out];exact hi)⟩;obtain⟨b,o,rfl,hb,xH⟩:=HR.out.cells (by intro e;have:=AY sgc 23 l (Cc l);rw[e,HN.out]at this;simp at this;omega);clear xH;have hGo:AJ wr b (o+i*23) 23=some s.cells:=(HR.out.below hbw).sgRow hs;have hsm:s∈l:=AM hs;have HSk:=AA (HOk.out s hsm).1;have hsl:s.sig.length<=140737488351232:=HSk.out.2.2;have HS:=AA hs;clear hs hsm;go_upto_region 5 with(refine AI rfl 62 (.tmp 5) (.tmp 18) rfl wr.heap.size s.cells rfl rfl 62 Al (Blk.new wr _ _) (by rw[s.size_cells];rfl) (by rw[s.size_cells];kernel_rfl) (fun u hu=>s.one u hu) ?_;intro w2 hB2 hg2 hGp)
   have HR2:Hid (Row sgc 62 w1 g (O++List.replicate (n-i) Co) w2):=(xh.out.alloc _).far hg2 (by omega) (by omega);have yD:Hid (∀t∈O,Bo w2 w.heap.size t):=fun t ht=>((xK.out t ht).alloc _).blk (Blk.new wr _ _) hg2
   have xB:ZN w w2:=xQ.grown HR2.out.kept xQ.size (ZJ hgw);have HC2:Hid (Blk w2 p 50 #[.slice (some ⟨g,0,none⟩) n n]):=HR2.out.box HB2.out hpg;have HBx:=AA hB2;have hw2:w2.heap.size=wr.heap.size+1:=by rw[hGp];simp
   obtain⟨q,hq⟩:=ZH wr.heap.size;rw[<-hq]at HBx hw2 ⊢;have hq2:q<w2.heap.size:=by omega
   have hqg:q≠g:=by omega
   have xT:Hid (∀V,ZN w2 V->V.cell? ⟨p,0,none⟩=some (.slice (some ⟨g,0,none⟩) n n)/\AJ V q 0 22=some s.vote.cells/\V.cell? ⟨q,22,none⟩=some (.slice s.A s.sig.length s.cap)):=fun V hV=>
    ⟨(hV.cell (p:=⟨p,0,none⟩) HC2.out.lt).trans (HC2.out.cell 0),s.row_vote (HBx.out.below hV hq2),((HBx.out.below hV hq2).cell 22).trans s.cell_sig⟩
   have HApp:Hid (∀V,ZN w2 V->Calls prog 80 #[.slice s.A s.sig.length s.cap,.int .u64 0,.int .i64 0] V (Ca V 5 1 s.sig.length (s.sig.map B))):=fun V hV=>
    NQ s.A s.sig.length s.cap 0 (s.sig.map B) V (by simp) (((HSk.out.2.1.below xB).more xB.size).below hV|>.more hV.size) (fun u hu=>Ba hu) hsl
   clear hg2 hGp hB2 hGo hc3 hq;have hbx:ZN w2 w2:=AC _ _;refine rgD (fun w'=>w'.cell? ⟨p,0,none⟩=some (.slice (some ⟨g,0,none⟩) n n)/\AJ w' q 0 22=some s.vote.cells/\w'.cell? ⟨q,22,none⟩=some (.slice s.A s.sig.length s.cap)) (xT.out _ hbx.drew) fun _=>?_
   iterate 6 (refine tkA ?_;go_frame)
   refine rd1 6 fun K hK=>?_
   go_simp;refine(HApp.out _ hbx.drew).mono ?_;rintro en w3 ⟨A3,c3,rfl,xD,hb3⟩;have xI:=hbx.drew.trans (hb3.mono (AB _));have HR3:=AA (HR2.out.below xI);have yM:Hid (∀t∈O,Bo w3 w.heap.size t):=(fun t ht=>(yD.out t ht).below xI (AB _));have hAg:Hid (Bo w3 w.heap.size (Sg.mk s.vote s.sig A3 c3)):=⟨HSk.out.1,BE xD (AG xB.size (AB _)),hsl⟩;clear xD hb3;go_wp2_with fail
   refine hK.out _ _ (xT.out _ xI) (fun _=>?_);clear hK K;try go_frame
   refine tkV 26 7 ((Sg.mk s.vote s.sig A3 c3).val) (fun wq _=>Jh s.vote s.sig A3 c3 (.tmp 22) (.tmp 25) rfl rfl rfl wq) ?_;go_frame;refine tkD 27 8 ?_;go_frame;refine rd1 9 fun K hK=>?_
   rw[if_pos (by rfl)];refine NX (.tmp 27) (.tmp 26) (by rfl) g i (Sg.mk s.vote s.sig A3 c3) (by rfl) (by rfl) (O++List.replicate (n-i) Co) (w0:=w1) HR3.out (by rw[AF,List.length_replicate,HOl.out];omega) (by rfl) ?_;intro w5 hr5;have hEv:Hid (w5.cell? ⟨p,0,none⟩=some (.slice (some ⟨g,0,none⟩) n n)/\AJ w5 q 0 22=some s.vote.cells/\w5.cell? ⟨q,22,none⟩=some (.slice s.A s.sig.length s.cap)):=⟨((hr5.box (HR3.out.box HB2.out hpg) hpg).cell 0),s.row_vote (hr5.box (HBx.out.below xI hq2) hqg),((hr5.box (HBx.out.below xI hq2) hqg).cell 22).trans s.cell_sig⟩;refine hK.out _ _ (hEv.out) (fun _=>?_);clear hK K;try go_frame
   refine dnD ?_;go_wp2_with fail
   go_roundw
   case rel=>
    refine⟨i+1,O++[Sg.mk s.vote s.sig A3 c3],by go_num,by rw[HN.out];omega,by rw[AF,HOl.out];rfl,?_,?_,?_⟩
    ·rw[Ae,HO.out,Ai,AQ,HS.out];rfl
    ·have h:=HR3.out.trans hr5;have e:(O++List.replicate (n-i) Co).set i (Sg.mk s.vote s.sig A3 c3)=O++[Sg.mk s.vote s.sig A3 c3]++List.replicate (l.length-(i+1)) Co:=by
      rw[List.set_append_right _ _ (by rw[HOl.out];exact AB _),HOl.out,Nat.sub_self,HN.out,show n-i=n-(i+1)+1 from by omega,List.replicate_succ,List.set_cons_zero];simp
     rw[e]at h;exact h
    ·intro t ht;rcases AP.1 ht with ht|ht
     ·exact(yM.out t ht).blk HR3.out.blk hr5.kept
     ·rw[AU.1 ht];exact hAg.out.blk HR3.out.blk hr5.kept
   case measure=>simp[intOf];omega
  ·have di:=ZL (show n<=i by omega)
   obtain rfl:n=i:=by omega
   have HRn:Hid (Row sgc 62 w1 g O wr):=by
    have h:=xh.out;rw[Nat.sub_self,List.replicate_zero,List.append_nil]at h;exact h
   have HBp:Hid (Blk wr p 50 #[.slice (some ⟨g,0,none⟩) n n]):=HRn.out.box HB2.out hpg;have yW:=AA (J2 (fun args W=>PG args W) VF O g n n wr (PF p g n n w.heap.size O wr _ HBp.out hpg xK.out HRn.out.blk HOl.out) HRn.out.blk HOl.out xS);clear xh;go_wp2_with fail
   refine yW.out.mono ?_;rintro en w3 ⟨rfl,l3,hr3,hp3,hs3⟩;have HR3:=AA hr3;have HPm:=AA hp3;have HAs:=AA hs3;have HB3:Hid (Blk w3 p 50 #[.slice (some ⟨g,0,none⟩) n n]):=hr3.box HBp.out hpg;have hc3':w3.cell? ⟨p,0,none⟩=some (.slice (some ⟨g,0,none⟩) n n):=HB3.out.cell 0;have yM:Hid (∀s∈l3,Bo w3 w.heap.size s):=fun s hs=>(xK.out s (hp3.mem_iff.1 hs)).blk HRn.out.blk hr3.kept
   have xJ:ZN w w3:=xQ.grown ((HRn.out.trans hr3).kept) xQ.size (ZJ hgw);have HL3:Hid (l3.length=n):=hp3.length_eq.trans HOl.out;have hg3:g<w3.heap.size:=hr3.blk.lt;have hEw:p<w3.heap.size:=HB3.out.lt;clear hr3 hp3 hs3 yW hc3 xK HBp HRn;go_wp2
   go_loopw [6,35] (fun v iv wr=>VH l3 w3 v iv wr) (fun _ iv _=>n-(intOf iv).toNat)
   case atStart=>exact⟨0,rfl,Nat.zero_le _,⟨by simp[Di],.inl ⟨by simp,rfl⟩⟩,AC _ _⟩
   case round=>
    clear hc3';obtain⟨i,rfl,hBW,hAf,hbr⟩:=hrel;rw[HL3.out]at hBW;obtain⟨T,hT⟩:=ZH (Di Sg.vote l3 i);have hTl:T.length<=1000000:=by have:=Oi Sg.vote l3 i;rw[hT];omega
    rw[<-hT]at hAf;have HT:=AA hT;have HOv:=AA hAf;clear hT hAf;by_cases hi2:i<n
    ·have di2:=ZK (show i<n by omega)
     obtain⟨x,hx⟩:∃x,l3[i]? =some x:=⟨_,AD (by rw[HL3.out];exact hi2)⟩;have hGq:AJ wr g (i*23) 23=some x.cells:=BH (HR3.out.sg hx) hbr hg3;have HXx:=AA hx;clear hx;go_upto_region 12 with(refine AI rfl 62 (.tmp 8) (.tmp 39) rfl wr.heap.size x.cells rfl rfl 62 Al (Blk.new wr _ _) (by rw[x.size_cells];rfl) (by rw[x.size_cells];kernel_rfl) (fun u hu=>x.one u hu) ?_;intro w4 hB4 hg4 xc)
     have hBX:Hid (w4.ownsRow w3.heap.size 62 23 u6 T.length (T.flatMap sgc)):=Bb (HOv.out.alloc _) hg4 (fun k hk=>by
      injection hk with hk
      subst hk;right;intro e;have:=(HOv.out.lt _ e).2;omega)
     have yP:ZN w3 w4:=(hbr.alloc hbr.size _).grown hg4 (AG hbr.size (by simp)) (ZJ hbr.size);have hw4:w4.heap.size=wr.heap.size+1:=by rw[xc];simp
     have HBx:=AA hB4;obtain⟨q,hq⟩:=ZH wr.heap.size;rw[<-hq]at HBx hw4 ⊢;have hq4:q<w4.heap.size:=by omega
     clear hB4 hg4 xc hGq hq HOv hbr;obtain⟨r,hrr⟩:=ZH ((decide (i=0)||decide ((l3[i-1]?.map Sg.vote)≠some x.vote)));have HRr:=AA hrr;clear hrr;go_frame;go_cut[52] (fun bv wx=>bv= .bool r/\∃k,wx=w4.drewN k)
     case first=>
      by_cases h0:i=0
      ·subst h0;refine rgD (fun _=>True) (trivial) fun _=>?_
       iterate 3 (refine tkA ?_;go_frame)
       refine skD 43 3 ?_;go_frame;refine skD 44 4 ?_;go_frame;refine skD 45 5 ?_;go_frame;refine skD 46 6 ?_;go_frame;refine skD 47 7 ?_;go_frame;refine skD 48 8 ?_;go_frame;refine skD 49 9 ?_;go_frame;refine skD 50 10 ?_;go_frame;refine skD 51 11 ?_;go_frame;refine tkD 52 12 ?_;go_frame;refine dnD ?_;go_wp2_with fail
       go_meet;exact⟨by rw[HRr.out];rfl,1,rfl⟩
      ·have d0:decide ((i:Int)=0)=false:=by simp;omega
       have d0b:((i:Int)==0)=false:=by simp;omega
       obtain⟨y,hy⟩:∃y,l3[i-1]? =some y:=⟨_,AD (by rw[HL3.out];omega)⟩;obtain⟨j,hj⟩:=ZH (i-1);rw[<-hj]at hy;have hji:(i:Int)-1=(j:Int):=by omega
       have hjn:j<n:=by omega
       have hwj:IntKind.i64.wrap (j:Int)=(j:Int):=BI _ (by omega);have HJ:=AA hj;clear hj;obtain⟨k,hk⟩:=ZH (decide (x.vote=y.vote));have e1:∀W,(Op.equalIn 10000 46 (.agg x.vote.cells) (.agg y.vote.cells)).run prog W= .ok k W:=fun W=>by rw[hk];exact U1 x.vote y.vote W
       have HKk:=AA hk;have HYy:=AA hy;clear hk hy;have xT:Hid (∀V,ZN w4 V->AJ V q 0 22=some x.vote.cells/\V.cell? ⟨p,0,none⟩=some (.slice (some ⟨g,0,none⟩) n n)/\AJ V g (j*23) 22=some y.vote.cells):=fun V hV=>
        ⟨x.row_vote (HBx.out.below hV hq4),((yP.trans (hV.mono yP.size)).cell (p:=⟨p,0,none⟩) hEw).trans (HB3.out.cell 0),BH (HR3.out.sgv HYy.out) (yP.trans (hV.mono yP.size)) hg3⟩
       have hbx:ZN w4 w4:=AC _ _;refine rgD (fun w'=>AJ w' q 0 22=some x.vote.cells/\w'.cell? ⟨p,0,none⟩=some (.slice (some ⟨g,0,none⟩) n n)/\AJ w' g (j*23) 22=some y.vote.cells) (xT.out _ hbx.drew) fun _=>?_
       iterate 13 (refine tkA ?_;go_frame)
       refine dnD ?_;go_wp2_with fail
       go_meet;refine⟨?_,1,rfl⟩;rw[HRr.out,<-HJ.out,HYy.out,HKk.out];simp[h0,eq_comm]
     case rest=>
      obtain⟨rfl,k,rfl⟩:=hcut;have hrq:AJ (w4.drewN k) q 0 23=some x.cells:=by rw[AN];exact HBx.out.row 23 x.size_cells
      have hAh:Hid ((w4.drewN k).ownsRow w3.heap.size 62 23 u6 T.length (T.flatMap sgc)):=hBX.out;have yr:ZN w3 (w4.drewN k):=BL yP k;cases r with
      |true=>
       have hC:i=0∨(l3[i-1]?.map Sg.vote)≠some x.vote:=by
        have h:=HRr.out.symm;rw[Bool.or_eq_true,decide_eq_true_eq,decide_eq_true_eq]at h;exact h
       have HC:=AA hC;clear hC;clear HRr hBX yP;generalize w4.drewN k=w5 at*;go_wp2_with ((first
        |(refine BS rfl 50 62 (.tmp 54) rfl x.cells rfl underlying50 (by rw[Sg.size_cells];kernel_rfl) (by rw[Sg.size_cells];omega) (by rw[Sg.size_cells];omega) ?_)
        |(at_builtin;refine Ar rfl (.tmp 53) (.tmp 55) _ rfl w3.heap.size 62 (.agg Al) 23 88 underlying50 CT rfl (by decide) u6 T.length (T.flatMap sgc) rfl ?r0 (w5.heap.size+1) (some ⟨w5.heap.size,0,none⟩) 1 1 (sgc x) rfl ?r1 ?r2 ?r3 ?r4 ?r5 ?r6 ?_)))
       case r0=>exact hAh.out.alloc _
       case r1=>rw[Array.length_toList];exact x.size_cells
       case r2=>exact Rd.mk (by omega) (fun j u hu=>by rw[Nat.zero_add,(Blk.new w5 _ _).cell];simpa using hu)
       case r3=>exact fun u hu=>x.one u hu
       case r4=>omega
       case r5=>unfold maxLen;omega
       case r6=>have:=yr.size;simp;omega
       intro v7 w7 xL hg7 xr;have hCw:ZN w3 w7:=BJ (yr.alloc yr.size _) (hAh.out.alloc _) hg7;have hEx:=AA xL;clear xL hg7 xr hrq hAh yr;go_wp2;go_roundw
       case rel=>
        refine⟨i+1,by go_num,by rw[HL3.out];omega,?_,hCw⟩;have h:=hEx.out;rw[HT.out]at h;rw[Lw HXx.out,if_pos HC.out,AF,Af];simpa using h
       case measure=>simp[intOf];omega
      |false=>
       have hC:¬(i=0∨(l3[i-1]?.map Sg.vote)≠some x.vote):=by
        have h:=HRr.out.symm;rw[Bool.or_eq_false_iff,decide_eq_false_iff_not,decide_eq_false_iff_not]at h;intro hh;rcases hh with hh|hh
        ·exact h.1 hh
        ·exact h.2 hh
       have HC:=AA hC;clear hC;clear HRr hBX yP hrq;generalize w4.drewN k=w5 at*;go_wp2;go_roundw
       case rel=>
        refine⟨i+1,by go_num,by rw[HL3.out];omega,?_,yr⟩;have h:=hAh.out;rw[HT.out]at h;rw[Lw HXx.out,if_neg HC.out,List.append_nil];exact h
       case measure=>simp[intOf];omega
    ·have di2:=ZL (show n<=i by omega)
     obtain rfl:n=i:=by omega
     go_wp2;go_ret;refine⟨T,_,rfl,xJ.trans (hbr.mono xJ.size),BE HOv.out xJ.size,?_,?_⟩
     ·intro s hs;rw[HT.out]at hs;exact(yM.out s (NY hs)).below hbr (AB _)
     ·have h1:=LR Sg.vote Prod.fst Sg.vs (fun _=>rfl) l3 n;rw[HT.out,h1];have h2:=Ok (l:=l.map Sg.vs) (s:=l3.map Sg.vs) (by
       have e:=HO.out;rw[AT (by rw[AX,HN.out];exact AB _)]at e;rw[<-e];exact HPm.out.map _) (by
       have:=HAs.out;unfold Asc at this ⊢;rw[List.pairwise_map];exact this)
      rw[AX,HL3.out]at h2;exact h2
theorem NZ(A:Option Addr)(n c:Nat)(l:List Sg)(w:World)(hn:l.length=n)(hr:Rd w w.heap.size A (l.flatMap sgc))(hok:CO w w.heap.size l)(xS:n<=1000000):Calls prog 46 #[.slice A n c] w (KI w (l.map Sg.vs)):=
 (JC A n c l w hn hr hok xS).mono fun _ _ ⟨L,v,h1,h2,h3,h4,h5⟩=>⟨L,v,h1,h2,h3,fun s hs=>(h4 s hs).ok,h5⟩
theorem CG:(prog.info? 46).map (fun i=>(i.zero,i.size,i.bytes))=some (some (.agg Bi.cells),22,64):=by kernel_rfl
def GG(w:World)(L:List Vt)(e:Ending)(w':World):Prop:=
 ∃v:Value,e= .returned v/\ZN w w'/\w'.ownsRow w.heap.size 46 22 v L.length (L.flatMap vtc)
def XH(l:List Sg)(w:World)(n:Nat)(v iv:Value)(wr:World):Prop:=
 ∃(i:Nat),iv= .int .i64 (i:Int)/\i<=n/\wr.ownsRow w.heap.size 46 22 v i (((l.take i).map (·.vote)).flatMap vtc)/\ZN w wr
theorem PH(A0:Option Addr)(n0 c0:Nat)(l0:List Sg)(w0:World)(hn:l0.length=n0)(hr:Rd w0 w0.heap.size A0 (l0.flatMap sgc))(hok:CO w0 w0.heap.size l0)(hDk:n0<=1000000):Calls prog 47 #[.slice A0 n0 c0] w0 (GG w0 ((B8 (l0.map Sg.vs)).map (·.1))):=by
 have hCY:Hid (Calls prog 46 #[.slice A0 n0 c0] w0 (KI w0 (l0.map Sg.vs))):=NZ A0 n0 c0 l0 w0 hn hr hok hDk;have hGr:(B8 (l0.map Sg.vs)).length<=1000000:=by have:=D9 (l0.map Sg.vs);rw[AX]at this;omega
 obtain⟨D,hD⟩:=ZH (B8 (l0.map Sg.vs));rw[<-hD]at hGr ⊢;have HD:=AA hD;clear hn hr hok hD;go_enter func47,ntmps47;go_wp2_with fail
 refine hCY.out.mono ?_;rintro en w ⟨l,v,rfl,hb0,hAs,hGs,he0⟩;rw[<-HD.out]at he0;obtain⟨A,c,rfl,hr,hc,hm,_⟩:=JS hAs rfl hGs;have HE:=AA he0;have xS:l.length<=1000000:=by have:=congrArg List.length he0;rw[AX]at this;omega
 obtain⟨n,hn⟩:=ZI l.length;rw[hn]at xS hc ⊢;have HN:=AA hn;have HR:=AA hr;clear hn hr he0 hAs hGs hGr;go_wp2
 go_loopw [3,9] (fun v iv wr=>XH l w n v iv wr) (fun _ iv _=>n-(intOf iv).toNat)
 case atStart=>exact⟨0,rfl,by omega,⟨by simp,.inl ⟨rfl,rfl⟩⟩,AC _ _⟩
 case round=>
  obtain⟨i,rfl,hin,xA,hbw⟩:=hrel;by_cases hi:i<n
  ·have di:=ZK (show i<n by omega)
   have ik:(i:Int)<(n:Int):=by omega
   have hil:i<=1000000:=by omega
   obtain⟨T,hT⟩:=ZH (((l.take i).map (·.vote)).flatMap vtc);rw[<-hT]at xA;have HT:=AA hT;have xK:=AA xA;clear xA hT;obtain⟨s,hs⟩:∃s,l[i]? =some s:=⟨_,AD (by rw[HN.out];exact hi)⟩;obtain⟨b,o,rfl,hb,xH⟩:=HR.out.cells (by intro e;have:=AY sgc 23 l (Cc l);rw[e,HN.out]at this;simp at this;omega);clear xH;have x1:AJ wr b (o+i*23) 23=some s.cells:=(HR.out.below hbw).sgRow hs;have HS:=AA hs;clear hs;go_upto_region 5 with(refine AI rfl 62 (.tmp 5) (.tmp 12) rfl wr.heap.size s.cells rfl rfl 62 Al (Blk.new wr _ _) (by rw[s.size_cells];rfl) (by rw[s.size_cells];kernel_rfl) (fun u hu=>s.one u hu) ?_;intro w4 hB4 hg4 xc)
   have xM:Hid (w4.ownsRow w.heap.size 46 22 u3 i T):=Bb (xK.out.alloc _) hg4 (fun k hk=>by
    injection hk with hk
    subst hk;right;intro e;have:=(xK.out.lt _ e).2;omega)
   have xE:ZN w w4:=(hbw.alloc hbw.size _).grown hg4 (AG hbw.size (by simp)) (ZJ hbw.size);have hw4:w4.heap.size=wr.heap.size+1:=by rw[xc];simp
   have HBx:=AA hB4;obtain⟨q,hq⟩:=ZH wr.heap.size;rw[<-hq]at HBx hw4 ⊢;have x4:AJ w4 q 0 22=some s.vote.cells:=s.row_vote HBx.out;have hw5:q<w4.heap.size:=by omega
   clear hB4 hg4 xc x1 hq xK hbw hw4;go_frame;go_wp2_with ((first
    |(refine BS rfl 56 46 (.tmp 15) rfl s.vote.cells rfl underlying56 (by kernel_rfl) (by decide) (by decide) ?_)
    |(at_builtin;refine Ar rfl (.tmp 13) (.tmp 16) _ rfl w.heap.size 46 (.agg Bi.cells) 22 64 underlying56 CG rfl (by decide) u3 i T rfl ?r0 (w4.heap.size+1) (some ⟨w4.heap.size,0,none⟩) 1 1 (vtc s.vote) rfl ?r1 ?r2 ?r3 ?r4 ?r5 ?r6 ?_)))
   case r0=>exact xM.out.alloc _
   case r1=>rfl
   case r2=>exact Rd.mk (by omega) (fun j u hu=>by rw[Nat.zero_add,(Blk.new w4 _ _).cell];simpa using hu)
   case r3=>exact fun u hu=>BO s.vote hu
   case r4=>omega
   case r5=>unfold maxLen;omega
   case r6=>have:=xE.size;simp;omega
   intro v3 w3 xD hg3 yb;have xJ:ZN w w3:=BJ (xE.alloc xE.size _) (xM.out.alloc _) hg3;have yM:=AA xD;clear xD hg3 yb;go_wp2;go_roundw
   case rel=>
    refine⟨i+1,by go_num,by omega,?_,xJ⟩;have h:=yM.out;rw[HT.out]at h;rw[Ai,HS.out,Ae,Af];simpa using h
   case measure=>simp[intOf];omega
  ·obtain rfl:n=i:=by omega
   have HT:Hid (l.take n=l):=by unfold Hid;rw[<-HN.out,List.take_length]
   rw[HT.out]at xA;have yD:=AA xA;clear xA;go_wp2;go_ret;refine⟨_,rfl,hb0.trans (hbw.mono hb0.size),?_⟩;have h:=BE yD.out hb0.size;have e:l.map (·.vote)=D.map (·.1):=by rw[<-HE.out,List.map_map];rfl
   rw[<-e,AX,HN.out];exact h
end
section
open Go.RowKit Go.Shelf
attribute [local go_sem ↓] Go.wp_at_zero Go.wp_at_succ Aj Ao Ap Aq
attribute [local go_sem] Ax BB BC BD AK AR AN
noncomputable def vtT:TypeInfo:=(prog.info? 56).get (by kernel_rfl)
noncomputable def vtE:TypeInfo:=(prog.info? 46).get (by kernel_rfl)
theorem YE(n:Nat)(h:2<=n):Lib.swapperK n vtE 25=9:=by
 have a:vtE.hasPointers=false:=by kernel_rfl
 have b:vtE.bytes=64:=by kernel_rfl
 have c0:(n==0)=false:=by simp;omega
 have c1:(n==1)=false:=by simp;omega
 unfold Lib.swapperK;rw[a,b,c0,c1];rfl
theorem XI:prog.info? 56=some vtT:=by kernel_rfl
theorem XJ:prog.info? 46=some vtE:=by kernel_rfl
theorem Sx:vtT.desc= .slice 46:=by kernel_rfl
theorem Sy:vtE.size=22:=by kernel_rfl
theorem KS:SlT 56 46 22:=
 ⟨⟨vtT,XI,Sx⟩,by kernel_rfl,⟨vtE,XJ,Sy,YE⟩,fun _=>by kernel_rfl,fun _=>by kernel_rfl⟩
instance:Inhabited Vt:=⟨Bi⟩
theorem KT(args:Array Value)(W:World):(callFunc 221 args).run prog W= .ok (.enter 221 args) W:=enters_of func221 (by kernel_rfl) rfl args W
theorem GH{w:World}{b n:Nat}{e:TypeId}{v:Value}{m:Nat}{xs:List Value}(h:w.ownsRow b e m v n xs):(v= .slice none 0 0/\n=0/\xs=[])∨∃g cap T,v= .slice (some ⟨g,0,none⟩) n cap/\b<=g/\Blk w g e (xs++T).toArray/\n<=cap:=by
 rcases h.2 with⟨hv,h0⟩|⟨g,cap,cur,hv,hg,hh,h1,_,_,ht⟩
 ·exact .inl ⟨hv,h0,AV (by rw[h.1,h0,Nat.zero_mul])⟩
 ·refine .inr ⟨g,cap,cur.toList.drop (n*m),hv,hg,?_,h1⟩;rw[<-ht,An];exact hh
end
section
open Go.RowKit Go.Shelf
def Cl(a b:Vt):Bool:=decide (a.choice=b.choice)&&decide (a.value=b.value)
def Ep(M:Int)(q:Nat)(v:Vt)(C:List Vt)(p:Vt->Bool):Bool:=
 decide (bits .andNot .i64 v.support M=0)&&(decide (Aw (xOf v.support) 10=q)&&(CV (xOf v.support) 10).all fun i=>C.any fun w=>decide (w.signer=(i:Int))&&p w)
def Na(v w:Vt):Bool:=decide (w.kind=1)&&Cl v w
def Lx(v w:Vt):Bool:=decide (w.kind=2)&&Cl v w
def Mb(v w:Vt):Bool:=decide (w.kind=4)&&(decide (w.round=v.round-1)&&Cl v w)
def Lg(v w:Vt):Bool:=decide (w.kind=4)&&(decide (w.round=v.round-1)&&decide (w.choice=2))
def QW(v w:Vt):Bool:=Mb v w||Lg v w
def pIn(v w:Vt):Bool:=(xOf v.support).testBit w.signer.toNat&&Mb v w
def Ly(v w:Vt):Bool:=decide (w.kind=3)&&(decide (w.round=v.round-1)&&Cl v w)
def JD(v w:Vt):Bool:=decide (w.kind=3)&&decide (w.round=v.round)
def KU(v w:Vt):Bool:=JD v w&&Cl v w
def G7(M:Int)(q:Nat)(v:Vt)(C:List Vt):Bool:=
 if v.round=1 then decide (v.choice=0)||Ep M q v C (Lx v)else(Ep M q v C (QW v)&&C.any (pIn v))||(Ep M q v C (Lg v)&&C.any (Ly v))
def EE(M:Int)(q:Nat)(v:Vt)(C:List Vt):Bool:=
 if v.kind=1 then decide (v.signer=v.slot)else if v.kind=2 then C.any (Na v)else if v.kind=3 then G7 M q v C else Ep M q v C (KU v)
def DI(M:Int)(q:Nat)(v:Vt)(C:List Vt)(b:Bool):Prop:=
 if v.kind=4/\v.choice=2 then(b=true->(xOf M).testBit v.signer.toNat=true)else b=((xOf M).testBit v.signer.toNat&&EE M q v C)
structure B5 (n0:Nat)(W0:World)(g:Nat)(lb:Array Value)(p:Vt->Bool):Prop where
 ent:∀args W,(callFunc g args).run prog W= .ok (.enter g args) W
 tells:∀V,Below n0 W0 V->∀v:Vt,Ab v->Calls prog g (#[v.val]++lb) V (Ac V (p v))
theorem B5.later{n0 n1:Nat}{W0 W1:World}{g:Nat}{lb:Array Value}{p:Vt->Bool}(h:B5 n0 W0 g lb p)(hb:Below n0 W0 W1)(hn:n0<=n1):B5 n1 W1 g lb p:=
 ⟨h.ent,fun V hV v hv=>h.tells V (hb.trans (hV.mono hn)) v hv⟩
def IX(n0:Nat)(W0:World)(b:Nat)(v:Vt):Prop:=b<n0/\Blk W0 b 46 v.cells
theorem IX.below{n0:Nat}{W0 V:World}{b:Nat}{v:Vt}(h:IX n0 W0 b v)(hV:Below n0 W0 V):Blk V b 46 v.cells:=h.2.below hV h.1
theorem EP(a b:Vt)(w:World):Calls prog 224 #[a.val,b.val] w (Ac w (Cl a b)):=by
 obtain⟨k1,hk1⟩:=ZH (decide (a.choice=b.choice));obtain⟨k2,hk2⟩:=ZH (decide (a.value=b.value));have hr:Cl a b=(k1&&k2):=by rw[hk1,hk2];rfl
 have e1:(a.choice==b.choice)=k1:=by rw[hk1];rfl
 have e2:∀W,(Op.equalIn 10000 24 a.value.val b.value.val).run prog W= .ok k2 W:=fun W=>by rw[hk2];exact ED a.value b.value W 9998
 have Hr:=AA hr;clear hk1 hk2 hr;cases k1
 ·go_enter func224,ntmps224;go_wp2;go_ret;exact⟨by rw[Hr.out];rfl,((AC _ _).alloc (AB _) _).alloc (by simp) _⟩
 ·skip
  cases k2
  ·go_enter func224,ntmps224;go_wp2;go_ret;exact⟨by rw[Hr.out];rfl,((AC _ _).alloc (AB _) _).alloc (by simp) _⟩
  ·go_enter func224,ntmps224;go_wp2;go_ret;exact⟨by rw[Hr.out];rfl,((AC _ _).alloc (AB _) _).alloc (by simp) _⟩
attribute [local go_sem ↓] Go.wp_at_zero Go.wp_at_succ Aj Ao Ap Aq
attribute [local go_sem] Ax BB BC BD AK AR AN
theorem Sz(v:Vt)(b n0:Nat)(W0:World)(hb:IX n0 W0 b v):B5 n0 W0 223 #[.pointer (some ⟨b,0,none⟩)] (Na v):=by
 refine⟨enters_of func223 (by kernel_rfl) rfl,fun V hV u hu=>?_⟩;have hB:=hb.below hV;have hB1:=hB.alloc (Obj.cells u.cells 46);have x0:=hB1.row 22 rfl;have x1:=(Blk.new V 46 u.cells).row 22 rfl;have HS:Hid (∀W,Calls prog 224 #[v.val,u.val] W (Ac W (Cl v u))):=fun W=>EP v u W
 obtain⟨k1,hk1⟩:=ZH (decide (u.kind=1));have hr:Na v u=(k1&&Cl v u):=by rw[hk1];rfl
 have e1:(u.kind==1)=k1:=by rw[hk1];rfl
 obtain⟨k2,hk2⟩:=ZH (Cl v u);rw[<-hk2]at HS hr;have hbw:ZN V (V.alloc (Obj.cells u.cells 46)):=(AC _ _).alloc (AB _) _;have Hr:=AA hr;clear hk1 hk2 hr hb hB hV hu hB1;cases k1
 ·go_enter func223,ntmps223;go_wp2;go_ret;exact⟨by rw[Hr.out];rfl,hbw⟩
 ·go_enter func223,ntmps223;go_wp2_with (go_at_call 224;refine(HS.out _).mono ?_;rintro en w2 ⟨rfl,hb2⟩)
  go_ret;exact⟨by rw[Hr.out];rfl,hbw.trans (hb2.mono hbw.size)⟩
theorem S0(v:Vt)(b n0:Nat)(W0:World)(hb:IX n0 W0 b v):B5 n0 W0 258 #[.pointer (some ⟨b,0,none⟩)] (Lx v):=by
 refine⟨enters_of func258 (by kernel_rfl) rfl,fun V hV u hu=>?_⟩;have hB:=hb.below hV;have hB1:=hB.alloc (Obj.cells u.cells 46);have x0:=hB1.row 22 rfl;have x1:=(Blk.new V 46 u.cells).row 22 rfl;have HS:Hid (∀W,Calls prog 224 #[v.val,u.val] W (Ac W (Cl v u))):=fun W=>EP v u W
 obtain⟨k1,hk1⟩:=ZH (decide (u.kind=2));have hr:Lx v u=(k1&&Cl v u):=by rw[hk1];rfl
 have e1:(u.kind==2)=k1:=by rw[hk1];rfl
 obtain⟨k2,hk2⟩:=ZH (Cl v u);rw[<-hk2]at HS hr;have hbw:ZN V (V.alloc (Obj.cells u.cells 46)):=(AC _ _).alloc (AB _) _;have Hr:=AA hr;clear hk1 hk2 hr hb hB hV hu hB1;cases k1
 ·go_enter func258,ntmps258;go_wp2;go_ret;exact⟨by rw[Hr.out];rfl,hbw⟩
 ·go_enter func258,ntmps258;go_wp2_with (go_at_call 224;refine(HS.out _).mono ?_;rintro en w2 ⟨rfl,hb2⟩)
  go_ret;exact⟨by rw[Hr.out];rfl,hbw.trans (hb2.mono hbw.size)⟩
theorem VI(v:Vt)(hv:1<=v.round/\v.round<=12)(b n0:Nat)(W0:World)(hb:IX n0 W0 b v):B5 n0 W0 259 #[.pointer (some ⟨b,0,none⟩)] (Mb v):=by
 refine⟨enters_of func259 (by kernel_rfl) rfl,fun V hV u hu=>?_⟩;have hB:=hb.below hV;have hB1:=hB.alloc (Obj.cells u.cells 46);have x0:=hB1.row 22 rfl;have x1:=(Blk.new V 46 u.cells).row 22 rfl;have c2:(V.alloc (Obj.cells u.cells 46)).cell? ⟨b,2,none⟩=some (I v.round):=hB1.cell 2;have HS:Hid (∀W,Calls prog 224 #[v.val,u.val] W (Ac W (Cl v u))):=fun W=>EP v u W
 obtain⟨k1,hk1⟩:=ZH (decide (u.kind=4));obtain⟨k2,hk2⟩:=ZH (decide (u.round=v.round-1));obtain⟨k3,hk3⟩:=ZH (Cl v u);have hr:Mb v u=(k1&&(k2&&k3)):=by rw[hk1,hk2,hk3];rfl
 have e1:(u.kind==4)=k1:=by rw[hk1];rfl
 have e2:(u.round==v.round-1)=k2:=by rw[hk2];rfl
 obtain⟨v1,v2⟩:=hv;rw[<-hk3]at HS;have hbw:ZN V (V.alloc (Obj.cells u.cells 46)):=(AC _ _).alloc (AB _) _;have Hr:=AA hr;clear hk1 hk2 hk3 hr hb hB hV hu hB1;cases k1
 ·go_enter func259,ntmps259;go_wp2;go_ret;exact⟨by rw[Hr.out];rfl,hbw⟩
 ·skip
  cases k2
  ·go_enter func259,ntmps259;go_wp2;go_ret;exact⟨by rw[Hr.out];rfl,hbw⟩
  ·go_enter func259,ntmps259;go_wp2_with (go_at_call 224;refine(HS.out _).mono ?_;rintro en w2 ⟨rfl,hb2⟩)
   go_ret;exact⟨by rw[Hr.out];rfl,hbw.trans (hb2.mono hbw.size)⟩
theorem VJ(v:Vt)(hv:1<=v.round/\v.round<=12)(b n0:Nat)(W0:World)(hb:IX n0 W0 b v):B5 n0 W0 260 #[.pointer (some ⟨b,0,none⟩)] (Lg v):=by
 refine⟨enters_of func260 (by kernel_rfl) rfl,fun V hV u hu=>?_⟩;have hB:=hb.below hV;have hB1:=hB.alloc (Obj.cells u.cells 46);have x0:=hB1.row 22 rfl;have x1:=(Blk.new V 46 u.cells).row 22 rfl;have c2:(V.alloc (Obj.cells u.cells 46)).cell? ⟨b,2,none⟩=some (I v.round):=hB1.cell 2;obtain⟨k1,hk1⟩:=ZH (decide (u.kind=4));obtain⟨k2,hk2⟩:=ZH (decide (u.round=v.round-1));obtain⟨k3,hk3⟩:=ZH (decide (u.choice=2));have hr:Lg v u=(k1&&(k2&&k3)):=by rw[hk1,hk2,hk3];rfl
 have e1:(u.kind==4)=k1:=by rw[hk1];rfl
 have e2:(u.round==v.round-1)=k2:=by rw[hk2];rfl
 obtain⟨v1,v2⟩:=hv;have e3:(u.choice==2)=k3:=by rw[hk3];rfl
 have hbw:ZN V (V.alloc (Obj.cells u.cells 46)):=(AC _ _).alloc (AB _) _;have Hr:=AA hr;clear hk1 hk2 hk3 hr hb hB hV hu hB1;cases k1
 ·go_enter func260,ntmps260;go_wp2;go_ret;exact⟨by rw[Hr.out];rfl,hbw⟩
 ·skip
  cases k2
  ·go_enter func260,ntmps260;go_wp2;go_ret;exact⟨by rw[Hr.out];rfl,hbw⟩
  ·go_enter func260,ntmps260;go_wp2;go_ret;exact⟨by rw[Hr.out];rfl,hbw⟩
theorem S1(v:Vt)(hv:1<=v.round/\v.round<=12)(b n0:Nat)(W0:World)(hb:IX n0 W0 b v):B5 n0 W0 263 #[.pointer (some ⟨b,0,none⟩)] (Ly v):=by
 refine⟨enters_of func263 (by kernel_rfl) rfl,fun V hV u hu=>?_⟩;have hB:=hb.below hV;have hB1:=hB.alloc (Obj.cells u.cells 46);have x0:=hB1.row 22 rfl;have x1:=(Blk.new V 46 u.cells).row 22 rfl;have c2:(V.alloc (Obj.cells u.cells 46)).cell? ⟨b,2,none⟩=some (I v.round):=hB1.cell 2;have HS:Hid (∀W,Calls prog 224 #[v.val,u.val] W (Ac W (Cl v u))):=fun W=>EP v u W
 obtain⟨k1,hk1⟩:=ZH (decide (u.kind=3));obtain⟨k2,hk2⟩:=ZH (decide (u.round=v.round-1));obtain⟨k3,hk3⟩:=ZH (Cl v u);have hr:Ly v u=(k1&&(k2&&k3)):=by rw[hk1,hk2,hk3];rfl
 have e1:(u.kind==3)=k1:=by rw[hk1];rfl
 have e2:(u.round==v.round-1)=k2:=by rw[hk2];rfl
 obtain⟨v1,v2⟩:=hv;rw[<-hk3]at HS;have hbw:ZN V (V.alloc (Obj.cells u.cells 46)):=(AC _ _).alloc (AB _) _;have Hr:=AA hr;clear hk1 hk2 hk3 hr hb hB hV hu hB1;cases k1
 ·go_enter func263,ntmps263;go_wp2;go_ret;exact⟨by rw[Hr.out];rfl,hbw⟩
 ·skip
  cases k2
  ·go_enter func263,ntmps263;go_wp2;go_ret;exact⟨by rw[Hr.out];rfl,hbw⟩
  ·go_enter func263,ntmps263;go_wp2_with (go_at_call 224;refine(HS.out _).mono ?_;rintro en w2 ⟨rfl,hb2⟩)
   go_ret;exact⟨by rw[Hr.out];rfl,hbw.trans (hb2.mono hbw.size)⟩
theorem Mc(v:Vt)(b n0:Nat)(W0:World)(hb:IX n0 W0 b v):B5 n0 W0 264 #[.pointer (some ⟨b,0,none⟩)] (JD v):=by
 refine⟨enters_of func264 (by kernel_rfl) rfl,fun V hV u hu=>?_⟩;have hB:=hb.below hV;have hB1:=hB.alloc (Obj.cells u.cells 46);have c2:(V.alloc (Obj.cells u.cells 46)).cell? ⟨b,2,none⟩=some (I v.round):=hB1.cell 2;obtain⟨k1,hk1⟩:=ZH (decide (u.kind=3));obtain⟨k2,hk2⟩:=ZH (decide (u.round=v.round));have hr:JD v u=(k1&&k2):=by rw[hk1,hk2];rfl
 have e1:(u.kind==3)=k1:=by rw[hk1];rfl
 have e2:(u.round==v.round)=k2:=by rw[hk2];rfl
 have hbw:ZN V (V.alloc (Obj.cells u.cells 46)):=(AC _ _).alloc (AB _) _;have Hr:=AA hr;clear hk1 hk2 hr hb hB hV hu hB1;cases k1
 ·go_enter func264,ntmps264;go_wp2;go_ret;exact⟨by rw[Hr.out];rfl,hbw⟩
 ·go_enter func264,ntmps264;go_wp2;go_ret;exact⟨by rw[Hr.out];rfl,hbw⟩
theorem IY(M:Int)(q nC:Nat)(A:Option Addr)(c:Nat)(C:List Vt)(g:Nat)(lb:Array Value)(p:Vt->Bool)(w:World)(hn:C.length=nC)(hr:Rd w w.heap.size A (C.flatMap vtc))(hv:∀v∈C,Ab v)(hf:B5 w.heap.size w g lb p)(hsm:nC<=1000000):Calls prog 222 #[.agg #[.int .i64 M,.int .i64 (q:Int),.slice A nC c],.func (.func g) #[] lb] w (Ac w (C.any p)):=by
 have HN:=AA hn;have HR:=AA hr;have HV:=AA hv;have HF:=AA hf;clear hn hr hv hf;have yV:ZN w (w.alloc (.cells #[.int .i64 M,.int .i64 (q:Int),.slice A nC c] 269)):=(AC _ _).alloc (AB _) _;go_enter func222,ntmps222;go_wp2
 go_loopw [10] (fun iv wr=>∃i:Nat,iv= .int .i64 (i:Int)/\i<=nC/\(C.take i).any p=false/\ZN w wr) (fun iv _=>nC-(intOf iv).toNat)
 case atStart=>exact⟨0,rfl,by omega,by simp,yV⟩
 case round=>
  obtain⟨i,rfl,hin,hno,hbw⟩:=hrel;have HNo:=AA hno;clear hno;by_cases hi:i<nC
  ·have di:=ZK (show i<nC by omega)
   have ik:(i:Int)<(nC:Int):=by omega
   have hil:i<=1000000:=by omega
   obtain⟨v,hvi⟩:∃v,C[i]? =some v:=⟨_,AD (by rw[HN.out];exact hi)⟩;obtain⟨b,o,rfl,hb,xH⟩:=HR.out.cells (by intro e;have:=AY vtc 22 C (Cd C);rw[e,HN.out]at this;simp at this;omega);clear xH;have x1:AJ wr b (o+i*22) 22=some v.cells:=(HR.out.below hbw).voteRow hvi;have HP:=AA HF.out.tells;have eg:=HF.out.ent;have hvv:=HV.out v (AM hvi);have yi:Hid ((C.take (i+1)).any p=((C.take i).any p||p v)):=by
    unfold Hid;rw[Ai,hvi,List.any_append];simp
   have HAny:Hid (p v=true->C.any p=true):=fun h=>List.any_eq_true.2 ⟨v,AM hvi,h⟩
   clear hvi;have HVv:=AA hvv;clear hvv;obtain⟨pv,hpv⟩:=ZH (p v);have HPv:=AA hpv;clear hpv;go_upto_region 4 with(refine AI rfl 46 (.tmp 6) (.tmp 13) rfl wr.heap.size v.cells rfl rfl 46 Bi.cells (Blk.new wr _ _) (by rfl) (by kernel_rfl) (fun u hu=>BO v hu) ?_;intro w4 hB4 hg4 xc)
   have xE:ZN w w4:=(hbw.alloc hbw.size _).grown hg4 (AG hbw.size (by simp)) (ZJ hbw.size);have x4:=hB4.row 22 rfl;clear x1 hB4 hg4 xc;try go_frame
   go_wp2_with fail
   refine(HP.out _ xE v HVv.out).mono ?_;rw[<-HPv.out];rintro en w5 ⟨rfl,hb5⟩;have xP:=xE.trans (hb5.mono xE.size);cases pv with
   |true=>
    go_wp2;go_ret;exact⟨by rw[HAny.out HPv.out.symm];rfl,xP⟩
   |false=>
    go_wp2;go_roundw
    case rel=>exact⟨i+1,by go_num,by omega,by rw[yi.out,HNo.out,<-HPv.out];rfl,xP⟩
    case measure=>simp[intOf];omega
  ·have di:=ZL (show nC<=i by omega)
   have hAt:i=nC:=by omega
   go_wp2;go_ret;refine⟨?_,hbw⟩;have:=HNo.out;rw[hAt,<-HN.out,List.take_length]at this;rw[this];rfl
end
end Go.Proofs.YtadllffeoibelaaGreat
