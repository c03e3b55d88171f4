/-
  What these parts of the proof come to, functions walked and plain laws: PCan2, SgVotes, Asc2. No condition.
-/
import Derived.Test.YtadllffeoibelaaGreatS21
import Derived.Deep.DeepCutAuto
import Derived.Test.YtadllffeoibelaaGreatS6
import Derived.Test.YtadllffeoibelaaGreatS10
import Derived.Test.YtadllffeoibelaaGreatS9
import Derived.Test.YtadllffeoibelaaGreatS19
import Derived.RangeFuncBox
namespace Go.Proofs.YtadllffeoibelaaGreat
set_option maxRecDepth 100000
set_option maxHeartbeats 32000000
set_option linter.all false
section
open Go.RowKit
attribute [local go_sem ↓] Go.wp_at_zero Go.wp_at_succ An Au Av Aw
attribute [local go_sem] BD BH BI BJ AN AW AQ
def Cf:Sg:=⟨Bk,[],none,0⟩
theorem KT:Cf.cells=BK:=rfl
theorem RT(n:Nat):madeCells (Value.cells (.agg BK)) (n*23)=((List.replicate n Cf).flatMap sgc).toArray:=by
 have hl:((List.replicate n Cf).flatMap sgc).length=n*23:=by
  rw[AX sgc 23 _ (fun s _=>CM [s] s (by simp)),List.length_replicate]
 apply Array.ext
 ·rw[size_madeCells];simpa using hl.symm
 ·intro k h1 h2;rw[size_madeCells]at h1;have hk:k/23<n:=by omega
  have hg:=CG sgc 23 (List.replicate n Cf) (fun s _=>CM [s] s (by simp)) (k/23) (k%23) Cf (by rw[List.getElem?_replicate,if_pos hk]) (by omega);rw[show k/23*23+k%23=k from by omega]at hg;have e1:((List.replicate n Cf).flatMap sgc).toArray[k]? =(sgc Cf)[k%23]?:=by rw[List.getElem?_toArray,hg]
  have e2:(madeCells (Value.cells (.agg BK)) (n*23))[k]? =BK[k%23]?:=by
   have hz:k%23<BK.size:=by show k%23<23;omega
   rw[madeCells,Array.getElem?_map,Array.getElem?_range,if_pos h1];show some (BK[k%23]!)=_;rw[Array.getElem?_eq_getElem hz,getElem!_pos BK _ hz]
  have e3:(sgc Cf)[k%23]? =BK[k%23]?:=by
   show(Cf.cells.toList)[k%23]? =_;rw[KT,Array.getElem?_toList]
  have e4:(madeCells (Value.cells (.agg BK)) (n*23))[k]? =((List.replicate n Cf).flatMap sgc).toArray[k]?:=by rw[e2,e1,e3]
  rw[Array.getElem?_eq_getElem (by rw[size_madeCells];exact h1),Array.getElem?_eq_getElem h2]at e4;exact Option.some.inj e4
theorem LT{op:Oper}{a:Act}{w w0:World}{K:Act→World→Prop}{Q:Exit→Act→World→Prop}(x y:Operand)(ho:op.op= .store 62 x y)(g i:Nat)(s:Sg)(hx:a.eval x= .pointer (some ⟨g,i*23,none⟩))(hy:a.eval y=s.val)(l:List Sg)(hR:Row sgc 62 w0 g l w)(hi:i<l.length)(hd:op.dst=none)(h:∀w',Row sgc 62 w g (l.set i s) w'→K a w'):op.wp Tryz.prog a w K Q:=by
 have hlen:(l.flatMap sgc).length=l.length*23:=AX sgc 23 l (CM l);have hb:i*23+23≤l.length*23:=by omega
 have hth:w.there g (i*23) 23:=fun j hj=>⟨by
  rw[hR.blk.cell,Array.getElem?_eq_getElem (by simp only[List.size_toArray];omega)];rfl,hR.blk.frozen _⟩
 refine wp_store_mid 62 x y ho g (i*23) s.cells hx hy (by rw[s.size_cells];exact hth) (by rw[s.size_cells];kernel_rfl) (Array.all_eq_true_iff_forall_mem.2 fun v hv=>s.one v (by simpa using hv)) ?_;obtain⟨b1,k1⟩:=DD g 62 s.cells.toList (i*23) w (l.flatMap sgc) hR.blk (by rw[Array.length_toList,s.size_cells,hlen];exact hb);rw[Array.length_toList,s.size_cells,←Gl sgc 23 l (CM l) i s hi]at b1;rw[hd];exact h _ ⟨b1,k1⟩
def Pm(l:List Sg)(w w1:World)(g:Nat)(iv:Value)(wr:World):Prop:=
 ∃(i:Nat) (O:List Sg),iv= .int .i64 (i:Int)∧i≤l.length∧O.length=i∧O.map Sg.vs=(l.map Sg.vs).take i∧Row sgc 62 w1 g (O++List.replicate (l.length-i) Cf) wr∧(∀s∈O,Bj wr w.heap.size s)
def RU(l:List Sg)(w3:World)(v iv:Value)(wr:World):Prop:=
 ∃(i:Nat),iv= .int .i64 (i:Int)∧i≤l.length∧wr.ownsRow w3.heap.size 62 23 v (DF Sg.vote l i).length ((DF Sg.vote l i).flatMap sgc)∧Below w3.heap.size w3 wr
theorem Jz{l:List Sg}{i:Nat}{x:Sg}(hx:l[i]? =some x):DF Sg.vote l (i+1)=DF Sg.vote l i++if(i=0∨(l[i-1]?.map Sg.vote)≠some x.vote)then[x]else[]:=by rw[DF,hx]
theorem LU{l:List Sg}:∀{i:Nat} {s:Sg},s∈DF Sg.vote l i→s∈l
 |0,s,h=>by cases h
 |i+1,s,h=>by
  rw[DF]at h;rcases AP.1 h with h|h
  ·exact LU h
  ·rcases hl:l[i]? with _|x
   ·rw[hl]at h;cases h
   ·rw[hl]at h;simp only at h;split at h
    ·rw[AR.1 h];exact AM hl
    ·cases h
theorem Mk(args:Array Value)(W:World):(callFunc 82 args).run Tryz.prog W= .ok (.enter 82 args) W:=by
 go_simp
theorem Row.far{α:Type}{c:α→List Value}{t:TypeId}{w0 w w':World}{g k:Nat}{l:List α}(h:Row c t w0 g l w)(hg:w.grownBy w' (some k))(hk:k≠g)(hk0:w0.heap.size≤k):Row c t w0 g l w':=
 ⟨h.blk.kept hg (by simpa using Ne.symm hk),h.kept.andThen hg (fun j hj=>by injection hj with hj;subst hj;exact .inl hk0)⟩
theorem Row.sgv{w0 W:World}{g i:Nat}{l:List Sg}{x:Sg}(h:Row sgc 62 w0 g l W)(hx:l[i]? =some x):AK W g (i*23) 22=some x.vote.cells:=by
 have h1:=(Cl (h.sg hx)).2;refine Bo (fun j u hu=>h1 j u ?_) rfl;have:=x.cell_vote j u (by simpa using hu);simpa using this
theorem Bj.below{w w':World}{b B':Nat}{s:Sg}(h:Bj w b s)(hb:Below B' w w')(hB:w.heap.size≤B'):Bj w' b s:=⟨h.1,BA h.2.1 hb hB,h.2.2⟩
theorem LV{o:Oper}{a:Act}(v:Vt)(sig:List UInt8)(A:Option Addr)(c:Nat)(s t:Operand)(ho:o.op= .build 62 #[(0,s),(1,t)])(hs:a.eval s= .agg v.cells)(ht:a.eval t= .slice A sig.length c)(w:World):(execOp a.eval o).run Tryz.prog w= .ok (.value (Sg.mk v sig A c).val) w:=by
 unfold Sg.val;rw[NK];unfold execOp;rw[ho];simp only[List.map_toArray,List.map_cons,List.map_nil,hs,ht];go_simp
def FC(w:World)(l:List VS)(e:Ending)(w':World):Prop:=
 ∃(L:List Sg) (v:Value),e= .returned v∧Below w.heap.size w w'∧w'.ownsRow w.heap.size 62 23 v L.length (L.flatMap sgc)∧(∀s∈L,Bj w' w.heap.size s)∧L.map Sg.vs=CD l
theorem G8(A:Option Addr)(n c:Nat)(l:List Sg)(w:World)(hn:l.length=n)(hr:Rd w w.heap.size A (l.flatMap sgc))(hok:FP w w.heap.size l)(hsmall:n≤1000000):Calls Tryz.prog 46 #[.slice A n c] w (FC w (l.map Sg.vs)):=by
 have HN:=AA hn;clear hn;have HR:=AA hr;clear hr;have HOk:=AA hok;clear hok;obtain⟨i0,hi,hz0,hz1,hz2⟩:=info_parts C6;obtain⟨Z,hZ⟩:∃Z,Z=((List.replicate n Cf).flatMap sgc).toArray:=⟨_,rfl⟩;have hmk:∀W:World,(Instr.makeSlice 50 (.int .i64 (n:Int)) (.int .i64 (n:Int))).run Tryz.prog W= .ok (.slice (some ⟨W.heap.size,0,none⟩) n n) (W.alloc (.cells Z 62)):=fun W=>by
  have:=run_make (P:=Tryz.prog) W 50 62 i0 _ Tryz.underlying50 hi hz0 .i64 .i64 n n (by omega) (by omega) (by rw[hz2];omega) (by omega);rw[this,hz1,Int.toNat_natCast,RT,←hZ]
 have HZ:=AA hZ;clear hZ hi hz0 hz1 hz2;go_enter Tryz.func46,Tryz.ntmps46;go_upto_region 2 with fail
 obtain⟨w1,hw1⟩:∃w1,w1=(w.alloc (.cells Z 62)).alloc (.cells #[.slice (some ⟨w.heap.size,0,none⟩) n n] 50):=⟨_,rfl⟩;rw[←hw1];have hbw1:Below w.heap.size w w1:=by rw[hw1];exact((AC _ _).alloc (AB _) _).alloc (by simp) _
 have HB1:Hid (Blk w1 w.heap.size 62 ((List.replicate n Cf).flatMap sgc).toArray):=by
  unfold Hid;rw[hw1,←HZ.out];exact(Blk.new w _ _).alloc _
 have HB2:Hid (Blk w1 (w.heap.size+1) 50 #[.slice (some ⟨w.heap.size,0,none⟩) n n]):=by
  unfold Hid;rw[hw1];have:=Blk.new (w.alloc (.cells Z 62)) 50 #[.slice (some ⟨w.heap.size,0,none⟩) n n];simpa using this
 have hw1s:w1.heap.size=w.heap.size+2:=by rw[hw1];simp
 clear hw1 hmk HZ;clear Z;obtain⟨g,hg⟩:∃g,g=w.heap.size:=⟨_,rfl⟩;obtain⟨p,hp⟩:∃p,p=w.heap.size+1:=⟨_,rfl⟩;rw[←hp,←hg];rw[←hp,←hg]at HB2;rw[←hg]at HB1;have hpg:p≠g:=by omega
 have hgw:w.heap.size≤g:=by omega
 have hpw:w.heap.size≤p:=by omega
 have hg1:g<w1.heap.size:=by omega
 have hp1:p<w1.heap.size:=by omega
 clear hw1s hg hp;go_wp2
 go_loopw [14] (fun iv wr=>Pm l w w1 g iv wr) (fun iv _=>n-(intOf iv).toNat)
 case atStart=>
  refine⟨0,[],rfl,Nat.zero_le _,rfl,by simp,?_,fun s hs=>by cases hs⟩;rw[List.nil_append,Nat.sub_zero,HN.out];exact Row.self HB1.out
 case round=>
  obtain⟨i,O,rfl,hin,hOl,hO,hrow,hown⟩:=hrel;rw[HN.out]at hin hrow;have hbw:Below w.heap.size w wr:=hbw1.grown hrow.kept hbw1.size (fun k hk=>by injection hk with hk;subst hk;exact hgw);have hc3:wr.cell? ⟨p,0,none⟩=some (.slice (some ⟨g,0,none⟩) n n):=(hrow.box HB2.out hpg).cell 0;have hgwr:g<wr.heap.size:=hrow.blk.lt;have hpwr:p<wr.heap.size:=(hrow.box HB2.out hpg).lt;have hw1wr:w1.heap.size≤wr.heap.size:=hrow.kept.size;have HO:=AA hO;have HOl:=AA hOl;have HRow:=AA hrow;have HOwn:=AA hown;clear hO hOl hrow hown;by_cases hi:i<n
  ·have di:decide ((i:Int)<(n:Int))=true:=by simp;omega
   obtain⟨s,hs⟩:∃s,l[i]? =some s:=⟨_,AE (by rw[HN.out];exact hi)⟩;obtain⟨b,o,rfl,hb,hcell⟩:=HR.out.cells (by intro e;have:=AX sgc 23 l (CM l);rw[e,HN.out]at this;simp at this;omega);clear hcell;have hrow1:AK wr b (o+i*23) 23=some s.cells:=(HR.out.below hbw).sgRow hs;have hsm:s∈l:=AM hs;have HSk:=AA (HOk.out s hsm).1;have hsl:s.sig.length≤140737488351232:=HSk.out.2.2;have HS:=AA hs;clear hs hsm;go_upto_region 5 with(refine AJ rfl 62 (.tmp 5) (.tmp 18) rfl wr.heap.size s.cells rfl rfl 62 BK (Blk.new wr _ _) (by rw[s.size_cells];rfl) (by rw[s.size_cells];kernel_rfl) (fun u hu=>s.one u hu) ?_;intro w2 hB2 hg2 hsz2)
   have HR2:Hid (Row sgc 62 w1 g (O++List.replicate (n-i) Cf) w2):=(HRow.out.alloc _).far hg2 (by omega) (by omega);have HOwn2:Hid (∀t∈O,Bj w2 w.heap.size t):=fun t ht=>((HOwn.out t ht).alloc _).blk (Blk.new wr _ _) hg2
   have hbw2:Below w.heap.size w w2:=hbw1.grown HR2.out.kept hbw1.size (fun k hk=>by injection hk with hk;subst hk;exact hgw);have HC2:Hid (Blk w2 p 50 #[.slice (some ⟨g,0,none⟩) n n]):=HR2.out.box HB2.out hpg;have HBx:=AA hB2;have hw2:w2.heap.size=wr.heap.size+1:=by rw[hsz2];simp
   obtain⟨q,hq⟩:∃q,q=wr.heap.size:=⟨_,rfl⟩;rw[←hq]at HBx hw2 ⊢;have hq2:q<w2.heap.size:=by omega
   have hqg:q≠g:=by omega
   have HRows:Hid (∀V,Below w2.heap.size w2 V→V.cell? ⟨p,0,none⟩=some (.slice (some ⟨g,0,none⟩) n n)∧AK V q 0 22=some s.vote.cells∧V.cell? ⟨q,22,none⟩=some (.slice s.A s.sig.length s.cap)):=fun V hV=>
    ⟨(hV.cell (p:=⟨p,0,none⟩) HC2.out.lt).trans (HC2.out.cell 0),s.row_vote (HBx.out.below hV hq2),((HBx.out.below hV hq2).cell 22).trans s.cell_sig⟩
   have HApp:Hid (∀V,Below w2.heap.size w2 V→Calls Tryz.prog 80 #[.slice s.A s.sig.length s.cap,.int .u64 0,.int .i64 0] V (CV V 5 1 s.sig.length (s.sig.map B))):=fun V hV=>
    QK s.A s.sig.length s.cap 0 (s.sig.map B) V (by simp) (((HSk.out.2.1.below hbw2).more hbw2.size).below hV|>.more hV.size) (fun u hu=>B3 hu) hsl
   clear hg2 hsz2 hB2 hrow1 hc3 hq;have hbx:Below w2.heap.size w2 w2:=AC _ _;refine rgD (fun w'=>w'.cell? ⟨p,0,none⟩=some (.slice (some ⟨g,0,none⟩) n n)∧AK w' q 0 22=some s.vote.cells∧w'.cell? ⟨q,22,none⟩=some (.slice s.A s.sig.length s.cap)) (HRows.out _ hbx.drew) fun hHeld=>?_
   refine tkD 19 0 ?_;go_frame;refine tkD 20 1 ?_;go_frame;refine tkD 21 2 ?_;go_frame;refine tkD 22 3 ?_;go_frame;refine tkD 23 4 ?_;go_frame;refine tkD 24 5 ?_;go_frame;refine rd1 6 fun K hK=>?_
   go_simp;refine(HApp.out _ hbx.drew).mono ?_;rintro en w3 ⟨A3,c3,rfl,hown3,hb3⟩;have hbx3:=hbx.drew.trans (hb3.mono (AB _));have HR3:=AA (HR2.out.below hbx3);have HOwn3:Hid (∀t∈O,Bj w3 w.heap.size t):=(fun t ht=>(HOwn2.out t ht).below hbx3 (AB _));have HNew:Hid (Bj w3 w.heap.size (Sg.mk s.vote s.sig A3 c3)):=⟨HSk.out.1,BF hown3 (AF hbw2.size (AB _)),hsl⟩;clear hown3 hb3;go_wp2_with fail
   refine hK.out _ _ (HRows.out _ hbx3) (fun hHeld=>?_);clear hK K;try go_frame
   refine Az (some 26) (i:=7) (v:=(Sg.mk s.vote s.sig A3 c3).val) rfl rfl (by kernel_rfl) (by kernel_rfl) (by kernel_rfl) (fun _ _ _ h=>h) (by rfl) (fun wq _=>LV s.vote s.sig A3 c3 (.tmp 22) (.tmp 25) rfl rfl rfl wq) (by assumption) ?_;go_frame;refine tkD 27 8 ?_;go_frame;refine rd1 9 fun K hK=>?_
   rw[if_pos (by rfl)];refine LT (.tmp 27) (.tmp 26) (by rfl) g i (Sg.mk s.vote s.sig A3 c3) (by rfl) (by rfl) (O++List.replicate (n-i) Cf) (w0:=w1) HR3.out (by rw[AI,List.length_replicate,HOl.out];omega) (by rfl) ?_;intro w5 hr5;have HHeld5:Hid (w5.cell? ⟨p,0,none⟩=some (.slice (some ⟨g,0,none⟩) n n)∧AK w5 q 0 22=some s.vote.cells∧w5.cell? ⟨q,22,none⟩=some (.slice s.A s.sig.length s.cap)):=⟨((hr5.box (HR3.out.box HB2.out hpg) hpg).cell 0),s.row_vote (hr5.box (HBx.out.below hbx3 hq2) hqg),((hr5.box (HBx.out.below hbx3 hq2) hqg).cell 22).trans s.cell_sig⟩;refine hK.out _ _ (HHeld5.out) (fun hHeld=>?_);clear hK K;try go_frame
   refine dnD ?_;go_wp2_with fail
   go_roundw
   case rel=>
    refine⟨i+1,O++[Sg.mk s.vote s.sig A3 c3],by go_num,by rw[HN.out];omega,by rw[AI,HOl.out];rfl,?_,?_,?_⟩
    ·rw[Ac,HO.out,Ag,AU,HS.out];rfl
    ·have h:=HR3.out.trans hr5;have e:(O++List.replicate (n-i) Cf).set i (Sg.mk s.vote s.sig A3 c3)=O++[Sg.mk s.vote s.sig A3 c3]++List.replicate (l.length-(i+1)) Cf:=by
      rw[List.set_append_right _ _ (by rw[HOl.out];exact AB _),HOl.out,Nat.sub_self,HN.out,show n-i=n-(i+1)+1 from by omega,List.replicate_succ,List.set_cons_zero];simp
     rw[e]at h;exact h
    ·intro t ht;rcases AP.1 ht with ht|ht
     ·exact(HOwn3.out t ht).blk HR3.out.blk hr5.kept
     ·rw[AR.1 ht];exact HNew.out.blk HR3.out.blk hr5.kept
   case measure=>simp[intOf];omega
  ·have di:decide ((i:Int)<(n:Int))=false:=by simp;omega
   obtain rfl:n=i:=by omega
   have HRn:Hid (Row sgc 62 w1 g O wr):=by
    have h:=HRow.out;rw[Nat.sub_self,List.replicate_zero,List.append_nil]at h;exact h
   have HBp:Hid (Blk wr p 50 #[.slice (some ⟨g,0,none⟩) n n]):=HRn.out.box HB2.out hpg;have HSort:=AA (IJ (fun args W=>Mk args W) RS O g n n wr (Mj p g n n w.heap.size O wr _ HBp.out hpg HOwn.out HRn.out.blk HOl.out) HRn.out.blk HOl.out hsmall);clear HRow;go_wp2_with fail
   refine HSort.out.mono ?_;rintro en w3 ⟨rfl,l3,hr3,hp3,hs3⟩;have HR3:=AA hr3;have HPm:=AA hp3;have HAs:=AA hs3;have HB3:Hid (Blk w3 p 50 #[.slice (some ⟨g,0,none⟩) n n]):=hr3.box HBp.out hpg;have hc3':w3.cell? ⟨p,0,none⟩=some (.slice (some ⟨g,0,none⟩) n n):=HB3.out.cell 0;have HOwn3:Hid (∀s∈l3,Bj w3 w.heap.size s):=fun s hs=>(HOwn.out s (hp3.mem_iff.1 hs)).blk HRn.out.blk hr3.kept
   have hbw3:Below w.heap.size w w3:=hbw1.grown ((HRn.out.trans hr3).kept) hbw1.size (fun k hk=>by injection hk with hk;subst hk;exact hgw);have HL3:Hid (l3.length=n):=hp3.length_eq.trans HOl.out;have hg3:g<w3.heap.size:=hr3.blk.lt;have hp3':p<w3.heap.size:=HB3.out.lt;clear hr3 hp3 hs3 HSort hc3 HOwn HBp HRn;go_wp2
   go_loopw [6,35] (fun v iv wr=>RU l3 w3 v iv wr) (fun _ iv _=>n-(intOf iv).toNat)
   case atStart=>exact⟨0,rfl,Nat.zero_le _,⟨by simp[DF],.inl ⟨by simp,rfl⟩⟩,AC _ _⟩
   case round=>
    clear hc3';obtain⟨i,rfl,hin2,hownv,hbr⟩:=hrel;rw[HL3.out]at hin2;obtain⟨T,hT⟩:∃T,T=DF Sg.vote l3 i:=⟨_,rfl⟩;have hTl:T.length≤1000000:=by have:=K8 Sg.vote l3 i;rw[hT];omega
    rw[←hT]at hownv;have HT:=AA hT;have HOv:=AA hownv;clear hT hownv;by_cases hi2:i<n
    ·have di2:decide ((i:Int)<(n:Int))=true:=by simp;omega
     obtain⟨x,hx⟩:∃x,l3[i]? =some x:=⟨_,AE (by rw[HL3.out];exact hi2)⟩;have hrowx:AK wr g (i*23) 23=some x.cells:=Ay (HR3.out.sg hx) hbr hg3;have HXx:=AA hx;clear hx;go_upto_region 12 with(refine AJ rfl 62 (.tmp 8) (.tmp 39) rfl wr.heap.size x.cells rfl rfl 62 BK (Blk.new wr _ _) (by rw[x.size_cells];rfl) (by rw[x.size_cells];kernel_rfl) (fun u hu=>x.one u hu) ?_;intro w4 hB4 hg4 hsz4)
     have HOv4:Hid (w4.ownsRow w3.heap.size 62 23 u6 T.length (T.flatMap sgc)):=BZ (HOv.out.alloc _) hg4 (fun k hk=>by
      injection hk with hk
      subst hk;right;intro e;have:=(HOv.out.lt _ e).2;omega)
     have hbr4:Below w3.heap.size w3 w4:=(hbr.alloc hbr.size _).grown hg4 (AF hbr.size (by simp)) (fun k hk=>by injection hk with hk;subst hk;exact hbr.size);have hw4:w4.heap.size=wr.heap.size+1:=by rw[hsz4];simp
     have HBx:=AA hB4;obtain⟨q,hq⟩:∃q,q=wr.heap.size:=⟨_,rfl⟩;rw[←hq]at HBx hw4 ⊢;have hq4:q<w4.heap.size:=by omega
     clear hB4 hg4 hsz4 hrowx hq HOv hbr;obtain⟨r,hrr⟩:∃r,r=(decide (i=0)||decide ((l3[i-1]?.map Sg.vote)≠some x.vote)):=⟨_,rfl⟩;have HRr:=AA hrr;clear hrr;go_frame;go_cut[52] (fun bv wx=>bv= .bool r∧∃k,wx=w4.drewN k)
     case first=>
      by_cases h0:i=0
      ·subst h0;refine rgD (fun _=>True) (trivial) fun hHeld=>?_
       refine tkD 40 0 ?_;go_frame;refine tkD 41 1 ?_;go_frame;refine tkD 42 2 ?_;go_frame;refine skD 43 3 ?_;go_frame;refine skD 44 4 ?_;go_frame;refine skD 45 5 ?_;go_frame;refine skD 46 6 ?_;go_frame;refine skD 47 7 ?_;go_frame;refine skD 48 8 ?_;go_frame;refine skD 49 9 ?_;go_frame;refine skD 50 10 ?_;go_frame;refine skD 51 11 ?_;go_frame;refine tkD 52 12 ?_;go_frame;refine dnD ?_;go_wp2_with fail
       go_meet;exact⟨by rw[HRr.out];rfl,1,rfl⟩
      ·have d0:decide ((i:Int)=0)=false:=by simp;omega
       have d0b:((i:Int)==0)=false:=by simp;omega
       obtain⟨y,hy⟩:∃y,l3[i-1]? =some y:=⟨_,AE (by rw[HL3.out];omega)⟩;obtain⟨j,hj⟩:∃j,j=i-1:=⟨_,rfl⟩;rw[←hj]at hy;have hji:(i:Int)-1=(j:Int):=by omega
       have hjn:j<n:=by omega
       have hwj:IntKind.i64.wrap (j:Int)=(j:Int):=DE _ (by omega);have HJ:=AA hj;clear hj;obtain⟨k,hk⟩:∃k,k=decide (x.vote=y.vote):=⟨_,rfl⟩;have e1:∀W,(Op.equalIn 10000 46 (.agg x.vote.cells) (.agg y.vote.cells)).run Tryz.prog W= .ok k W:=fun W=>by rw[hk];exact OS x.vote y.vote W
       have HKk:=AA hk;have HYy:=AA hy;clear hk hy;have HRows:Hid (∀V,Below w4.heap.size w4 V→AK V q 0 22=some x.vote.cells∧V.cell? ⟨p,0,none⟩=some (.slice (some ⟨g,0,none⟩) n n)∧AK V g (j*23) 22=some y.vote.cells):=fun V hV=>
        ⟨x.row_vote (HBx.out.below hV hq4),((hbr4.trans (hV.mono hbr4.size)).cell (p:=⟨p,0,none⟩) hp3').trans (HB3.out.cell 0),Ay (HR3.out.sgv HYy.out) (hbr4.trans (hV.mono hbr4.size)) hg3⟩
       have hbx:Below w4.heap.size w4 w4:=AC _ _;refine rgD (fun w'=>AK w' q 0 22=some x.vote.cells∧w'.cell? ⟨p,0,none⟩=some (.slice (some ⟨g,0,none⟩) n n)∧AK w' g (j*23) 22=some y.vote.cells) (HRows.out _ hbx.drew) fun hHeld=>?_
       refine tkD 40 0 ?_;go_frame;refine tkD 41 1 ?_;go_frame;refine tkD 42 2 ?_;go_frame;refine tkD 43 3 ?_;go_frame;refine tkD 44 4 ?_;go_frame;refine tkD 45 5 ?_;go_frame;refine tkD 46 6 ?_;go_frame;refine tkD 47 7 ?_;go_frame;refine tkD 48 8 ?_;go_frame;refine tkD 49 9 ?_;go_frame;refine tkD 50 10 ?_;go_frame;refine tkD 51 11 ?_;go_frame;refine tkD 52 12 ?_;go_frame;refine dnD ?_;go_wp2_with fail
       go_meet;refine⟨?_,1,rfl⟩;rw[HRr.out,←HJ.out,HYy.out,HKk.out];simp[h0,eq_comm]
     case rest=>
      obtain⟨rfl,k,rfl⟩:=hcut;have hrq:AK (w4.drewN k) q 0 23=some x.cells:=by rw[AQ];exact HBx.out.row 23 x.size_cells
      have HOv5:Hid ((w4.drewN k).ownsRow w3.heap.size 62 23 u6 T.length (T.flatMap sgc)):=HOv4.out;have hbr5:Below w3.heap.size w3 (w4.drewN k):=BN hbr4 k;cases r with
      |true=>
       have hC:i=0∨(l3[i-1]?.map Sg.vote)≠some x.vote:=by
        have h:=HRr.out.symm;rw[Bool.or_eq_true,decide_eq_true_eq,decide_eq_true_eq]at h;exact h
       have HC:=AA hC;clear hC;clear HRr HOv4 hbr4;generalize w4.drewN k=w5 at*;go_wp2_with ((first
        |(refine BP rfl 50 62 (.tmp 54) rfl x.cells rfl Tryz.underlying50 (by rw[Sg.size_cells];kernel_rfl) (by rw[Sg.size_cells];omega) (by rw[Sg.size_cells];omega) ?_)
        |(at_builtin;refine Aq rfl (.tmp 53) (.tmp 55) _ rfl w3.heap.size 62 (.agg BK) 23 88 Tryz.underlying50 C6 rfl (by decide) u6 T.length (T.flatMap sgc) rfl ?r0 (w5.heap.size+1) (some ⟨w5.heap.size,0,none⟩) 1 1 (sgc x) rfl ?r1 ?r2 ?r3 ?r4 ?r5 ?r6 ?_)))
       case r0=>exact HOv5.out.alloc _
       case r1=>rw[Array.length_toList];exact x.size_cells
       case r2=>exact Rd.mk (by omega) (fun j u hu=>by rw[Nat.zero_add,(Blk.new w5 _ _).cell];simpa using hu)
       case r3=>exact fun u hu=>x.one u hu
       case r4=>omega
       case r5=>unfold maxLen;omega
       case r6=>have:=hbr5.size;simp;omega
       intro v7 w7 hown7 hg7 hat7;have hbr7:Below w3.heap.size w3 w7:=BL (hbr5.alloc hbr5.size _) (HOv5.out.alloc _) hg7;have HOv7:=AA hown7;clear hown7 hg7 hat7 hrq HOv5 hbr5;go_wp2;go_roundw
       case rel=>
        refine⟨i+1,by go_num,by rw[HL3.out];omega,?_,hbr7⟩;have h:=HOv7.out;rw[HT.out]at h;rw[Jz HXx.out,if_pos HC.out,AI,Ad];simpa using h
       case measure=>simp[intOf];omega
      |false=>
       have hC:¬(i=0∨(l3[i-1]?.map Sg.vote)≠some x.vote):=by
        have h:=HRr.out.symm;rw[Bool.or_eq_false_iff,decide_eq_false_iff_not,decide_eq_false_iff_not]at h;intro hh;rcases hh with hh|hh
        ·exact h.1 hh
        ·exact h.2 hh
       have HC:=AA hC;clear hC;clear HRr HOv4 hbr4 hrq;generalize w4.drewN k=w5 at*;go_wp2;go_roundw
       case rel=>
        refine⟨i+1,by go_num,by rw[HL3.out];omega,?_,hbr5⟩;have h:=HOv5.out;rw[HT.out]at h;rw[Jz HXx.out,if_neg HC.out,List.append_nil];exact h
       case measure=>simp[intOf];omega
    ·have di2:decide ((i:Int)<(n:Int))=false:=by simp;omega
     obtain rfl:n=i:=by omega
     go_wp2;go_ret;refine⟨T,_,rfl,hbw3.trans (hbr.mono hbw3.size),BF HOv.out hbw3.size,?_,?_⟩
     ·intro s hs;rw[HT.out]at hs;exact(HOwn3.out s (LU hs)).below hbr (AB _)
     ·have h1:=Ii Sg.vote Prod.fst Sg.vs (fun _=>rfl) l3 n;rw[HT.out,h1];have h2:=LB (l:=l.map Sg.vs) (s:=l3.map Sg.vs) (by
       have e:=HO.out;rw[AT (by rw[AY,HN.out];exact AB _)]at e;rw[←e];exact HPm.out.map _) (by
       have:=HAs.out;unfold Asc at this ⊢;rw[List.pairwise_map];exact this)
      rw[AY,HL3.out]at h2;exact h2
theorem Pn(A:Option Addr)(n c:Nat)(l:List Sg)(w:World)(hn:l.length=n)(hr:Rd w w.heap.size A (l.flatMap sgc))(hok:FP w w.heap.size l)(hsmall:n≤1000000):Calls Tryz.prog 46 #[.slice A n c] w (NR w (l.map Sg.vs)):=
 (G8 A n c l w hn hr hok hsmall).mono fun _ _ ⟨L,v,h1,h2,h3,h4,h5⟩=>⟨L,v,h1,h2,h3,fun s hs=>(h4 s hs).ok,h5⟩
theorem CA:(Tryz.prog.info? 46).map (fun i=>(i.zero,i.size,i.bytes))=some (some (.agg Bk.cells),22,64):=by kernel_rfl
def EK(w:World)(L:List Vt)(e:Ending)(w':World):Prop:=
 ∃v:Value,e= .returned v∧Below w.heap.size w w'∧w'.ownsRow w.heap.size 46 22 v L.length (L.flatMap vtc)
def Sw(l:List Sg)(w:World)(n:Nat)(v iv:Value)(wr:World):Prop:=
 ∃(i:Nat),iv= .int .i64 (i:Int)∧i≤n∧wr.ownsRow w.heap.size 46 22 v i (((l.take i).map (·.vote)).flatMap vtc)∧Below w.heap.size w wr
theorem Iw(A0:Option Addr)(n0 c0:Nat)(l0:List Sg)(w0:World)(hn:l0.length=n0)(hr:Rd w0 w0.heap.size A0 (l0.flatMap sgc))(hok:FP w0 w0.heap.size l0)(hsmall0:n0≤1000000):Calls Tryz.prog 47 #[.slice A0 n0 c0] w0 (EK w0 ((CD (l0.map Sg.vs)).map (·.1))):=by
 have HCan:Hid (Calls Tryz.prog 46 #[.slice A0 n0 c0] w0 (NR w0 (l0.map Sg.vs))):=Pn A0 n0 c0 l0 w0 hn hr hok hsmall0;have hlim:(CD (l0.map Sg.vs)).length≤1000000:=by have:=C7 (l0.map Sg.vs);rw[AY]at this;omega
 obtain⟨D,hD⟩:∃D,D=CD (l0.map Sg.vs):=⟨_,rfl⟩;rw[←hD]at hlim ⊢;have HD:=AA hD;clear hn hr hok hD;go_enter Tryz.func47,Tryz.ntmps47;go_wp2_with fail
 refine HCan.out.mono ?_;rintro en w ⟨l,v,rfl,hb0,hown0,hok0,he0⟩;rw[←HD.out]at he0;obtain⟨A,c,rfl,hr,hc,hm,_⟩:=OI hown0 rfl hok0;have HE:=AA he0;have hsmall:l.length≤1000000:=by have:=congrArg List.length he0;rw[AY]at this;omega
 obtain⟨n,hn⟩:∃n,l.length=n:=⟨_,rfl⟩;rw[hn]at hsmall hc ⊢;have HN:=AA hn;have HR:=AA hr;clear hn hr he0 hown0 hok0 hlim;go_wp2
 go_loopw [3,9] (fun v iv wr=>Sw l w n v iv wr) (fun _ iv _=>n-(intOf iv).toNat)
 case atStart=>exact⟨0,rfl,by omega,⟨by simp,.inl ⟨rfl,rfl⟩⟩,AC _ _⟩
 case round=>
  obtain⟨i,rfl,hin,hown,hbw⟩:=hrel;by_cases hi:i<n
  ·have di:decide ((i:Int)<(n:Int))=true:=by simp;omega
   have ik:(i:Int)<(n:Int):=by omega
   have hil:i≤1000000:=by omega
   obtain⟨T,hT⟩:∃T,T=((l.take i).map (·.vote)).flatMap vtc:=⟨_,rfl⟩;rw[←hT]at hown;have HT:=AA hT;have HOwn:=AA hown;clear hown hT;obtain⟨s,hs⟩:∃s,l[i]? =some s:=⟨_,AE (by rw[HN.out];exact hi)⟩;obtain⟨b,o,rfl,hb,hcell⟩:=HR.out.cells (by intro e;have:=AX sgc 23 l (CM l);rw[e,HN.out]at this;simp at this;omega);clear hcell;have x1:AK wr b (o+i*23) 23=some s.cells:=(HR.out.below hbw).sgRow hs;have HS:=AA hs;clear hs;go_upto_region 5 with(refine AJ rfl 62 (.tmp 5) (.tmp 12) rfl wr.heap.size s.cells rfl rfl 62 BK (Blk.new wr _ _) (by rw[s.size_cells];rfl) (by rw[s.size_cells];kernel_rfl) (fun u hu=>s.one u hu) ?_;intro w4 hB4 hg4 hsz4)
   have HOwn4:Hid (w4.ownsRow w.heap.size 46 22 u3 i T):=BZ (HOwn.out.alloc _) hg4 (fun k hk=>by
    injection hk with hk
    subst hk;right;intro e;have:=(HOwn.out.lt _ e).2;omega)
   have hbw4:Below w.heap.size w w4:=(hbw.alloc hbw.size _).grown hg4 (AF hbw.size (by simp)) (fun k hk=>by injection hk with hk;subst hk;exact hbw.size);have hw4:w4.heap.size=wr.heap.size+1:=by rw[hsz4];simp
   have HBx:=AA hB4;obtain⟨q,hq⟩:∃q,q=wr.heap.size:=⟨_,rfl⟩;rw[←hq]at HBx hw4 ⊢;have x4:AK w4 q 0 22=some s.vote.cells:=s.row_vote HBx.out;have hw5:q<w4.heap.size:=by omega
   clear hB4 hg4 hsz4 x1 hq HOwn hbw hw4;go_frame;go_wp2_with ((first
    |(refine BP rfl 56 46 (.tmp 15) rfl s.vote.cells rfl Tryz.underlying56 (by kernel_rfl) (by decide) (by decide) ?_)
    |(at_builtin;refine Aq rfl (.tmp 13) (.tmp 16) _ rfl w.heap.size 46 (.agg Bk.cells) 22 64 Tryz.underlying56 CA rfl (by decide) u3 i T rfl ?r0 (w4.heap.size+1) (some ⟨w4.heap.size,0,none⟩) 1 1 (vtc s.vote) rfl ?r1 ?r2 ?r3 ?r4 ?r5 ?r6 ?_)))
   case r0=>exact HOwn4.out.alloc _
   case r1=>rfl
   case r2=>exact Rd.mk (by omega) (fun j u hu=>by rw[Nat.zero_add,(Blk.new w4 _ _).cell];simpa using hu)
   case r3=>exact fun u hu=>BM s.vote hu
   case r4=>omega
   case r5=>unfold maxLen;omega
   case r6=>have:=hbw4.size;simp;omega
   intro v3 w3 hown3 hg3 hat3;have hbw3:Below w.heap.size w w3:=BL (hbw4.alloc hbw4.size _) (HOwn4.out.alloc _) hg3;have HOwn3:=AA hown3;clear hown3 hg3 hat3;go_wp2;go_roundw
   case rel=>
    refine⟨i+1,by go_num,by omega,?_,hbw3⟩;have h:=HOwn3.out;rw[HT.out]at h;rw[Ag,HS.out,Ac,Ad];simpa using h
   case measure=>simp[intOf];omega
  ·obtain rfl:n=i:=by omega
   have HT:Hid (l.take n=l):=by unfold Hid;rw[←HN.out,List.take_length]
   rw[HT.out]at hown;have HOwn2:=AA hown;clear hown;go_wp2;go_ret;refine⟨_,rfl,hb0.trans (hbw.mono hb0.size),?_⟩;have h:=BF HOwn2.out hb0.size;have e:l.map (·.vote)=D.map (·.1):=by rw[←HE.out,List.map_map];rfl
   rw[←e,AY,HN.out];exact h
end
section
open Go.RowKit Go.Shelf
attribute [local go_sem ↓] Go.wp_at_zero Go.wp_at_succ An Au Av Aw
attribute [local go_sem] BD BH BI BJ AN AW AQ
noncomputable def vtT:TypeInfo:=(Tryz.prog.info? 56).get (by kernel_rfl)
noncomputable def vtE:TypeInfo:=(Tryz.prog.info? 46).get (by kernel_rfl)
theorem To(n:Nat)(h:2≤n):Lib.swapperK n vtE 25=9:=by
 have a:vtE.hasPointers=false:=by kernel_rfl
 have b:vtE.bytes=64:=by kernel_rfl
 have c0:(n==0)=false:=by simp;omega
 have c1:(n==1)=false:=by simp;omega
 unfold Lib.swapperK;rw[a,b,c0,c1];rfl
theorem Sx:Tryz.prog.info? 56=some vtT:=by kernel_rfl
theorem Sy:Tryz.prog.info? 46=some vtE:=by kernel_rfl
theorem Po:vtT.desc= .slice 46:=by kernel_rfl
theorem Pp:vtE.size=22:=by kernel_rfl
theorem Ix:SlT 56 46 22:=
 ⟨⟨vtT,Sx,Po⟩,by kernel_rfl,⟨vtE,Sy,Pp,To⟩,fun _=>by kernel_rfl,fun _=>by kernel_rfl⟩
instance:Inhabited Vt:=⟨Bk⟩
theorem Iy(args:Array Value)(W:World):(callFunc 221 args).run Tryz.prog W= .ok (.enter 221 args) W:=enters_of Tryz.func221 (by kernel_rfl) rfl args W
theorem FD{w:World}{b n:Nat}{e:TypeId}{v:Value}{m:Nat}{xs:List Value}(h:w.ownsRow b e m v n xs):(v= .slice none 0 0∧n=0∧xs=[])∨∃g cap T,v= .slice (some ⟨g,0,none⟩) n cap∧b≤g∧Blk w g e (xs++T).toArray∧n≤cap:=by
 rcases h.2 with⟨hv,h0⟩|⟨g,cap,cur,hv,hg,hh,h1,_,_,ht⟩
 ·exact .inl ⟨hv,h0,AV (by rw[h.1,h0,Nat.zero_mul])⟩
 ·refine .inr ⟨g,cap,cur.toList.drop (n*m),hv,hg,?_,h1⟩;rw[←ht,Aj];exact hh
end
end Go.Proofs.YtadllffeoibelaaGreat
