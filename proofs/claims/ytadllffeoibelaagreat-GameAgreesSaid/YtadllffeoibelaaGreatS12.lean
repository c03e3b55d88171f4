/-
  What these parts of the proof come to, functions walked and plain laws: Ids, Set, MapX, Key0, SignP. No condition.
-/
import Derived.Test.YtadllffeoibelaaGreatS11
import Derived.RangeFuncNested
import Derived.RangeFuncBox
import Derived.RangeFuncLeaves
import Derived.OwnWalkIn
import Derived.Shelf.Abstract
import Derived.TacticsInMore
import Derived.LoopNIn
import Derived.LoopIn
import Derived.Maps.AppendAt
import Derived.Test.YtadllffeoibelaaGreatS10
import Derived.Test.YtadllffeoibelaaGreatS2
import Derived.Test.YtadllffeoibelaaGreatS6
import Derived.Deep.DeepCutAuto
import Derived.Test.YtadllffeoibelaaGreatS4
namespace Go.Proofs.YtadllffeoibelaaGreat
set_option maxRecDepth 100000
set_option maxHeartbeats 32000000
set_option linter.all false
section
open Go.RowKit Go.Shelf
attribute [local go_sem] Oper.semAt_some
def CH(s n:Nat):List Nat:=(List.range n).filter fun i=>s.testBit i
theorem GL{s n:Nat}(h:s.testBit n=true):CH s (n+1)=CH s n++[n]:=by simp[CH,List.range_succ,List.filter_append,h]
theorem ER{s n:Nat}(h:s.testBit n=false):CH s (n+1)=CH s n:=by simp[CH,List.range_succ,List.filter_append,h]
theorem E7(s n:Nat):(CH s n).length≤n:=by
 have:=List.length_filter_le (fun i=>s.testBit i) (List.range n);rwa[List.length_range]at this
theorem GM{s n i:Nat}:i∈CH s n↔i<n∧s.testBit i=true:=by simp[CH]
def EH(n₀ B:Nat)(V W:World):Prop:=Below n₀ V W∧W.heap[B]? =V.heap[B]?
theorem LD{n₀ B:Nat}{U V W:World}(h:EH n₀ B U V)(k:EH n₀ B V W):EH n₀ B U W:=⟨h.1.trans k.1,k.2.trans h.2⟩
theorem PS(n:Nat)(hn:1≤n)(l Bn n₀:Nat)(M:Int)(J Jx:List Nat→World→Prop)(hY:∀(pre:List Nat) (x:Nat) (W:World),J pre W→pre.length<10→YieldAt Fence.wide (n-1) Tryz.prog l #[.int .i64 (x:Int)] W fun e W'=>(e= .returned (.bool true)∧J (pre++[x]) W'∧EH n₀ Bn W W')∨(e= .returned (.bool false)∧Jx (pre++[x]) W'))(W:World)(hB:Boxed W Bn 22 (.int .i64 M))(h0:J [] W):CallsIn Fence.wide n Tryz.prog 128 #[.func (.yield l) #[] #[],.pointer (some ⟨Bn,0,none⟩)] W fun e W'=>(∃v,e= .returned v)∧((∃ys,ys=CH (xOf M) 10∧J ys W')∨(∃pre,True∧Jx pre W')):=by
 have HH:=AA (fun i (hi:i<10) W=>Dv M i hi W);refine callsIn_of_wp Tryz.func128 rfl trivial ?_ rfl;simp only[Tryz.ntmps128,List.size_toArray,Af,List.length_nil,Nat.reduceAdd,Nat.reduceSub,Array.replicate_succ,Array.replicate_zero,List.push_toArray,List.append_toArray,List.nil_append,List.cons_append]
 gi_wp2
 gi_loopw [4] (fun iv wr=>∃i:Nat,iv= .int .i64 (i:Int)∧i≤10∧Boxed wr Bn 22 (.int .i64 M)∧J (CH (xOf M) i) wr) (fun iv _=>10-(intOf iv).toNat)
 case atStart=>exact⟨0,rfl,by omega,hB,h0⟩
 case round=>
  obtain⟨i,rfl,hin,hbox,hJ⟩:=hrel;have hcell:=hbox.cell;by_cases hi:i<10
  ·have di:decide ((i:Int)<10)=true:=by simp;omega
   have H:=AA (HH.out i hi);cases hb:(xOf M).testBit i with
   |true=>
    rw[hb]at H;have hids:=GL hb;obtain⟨fn,tmps,assign,body,hy,hR⟩:=hY _ i wr hJ (by have:=E7 (xOf M) i;omega)
    gi_wp2_with (refine⟨trivial,?_⟩;gi_at_call 19;refine(callsIn_wide.2 (H.out _)).mono ?_;rintro en w2 ⟨rfl,hw2⟩;replace hw2:=hw2.symm;subst hw2)
    refine hR.mono ?_;rintro e W3 (⟨rfl,hJ3,hk3⟩|⟨rfl,hx3⟩)
    ·have hbox3:Boxed W3 Bn 22 (.int .i64 M):=hk3.2.trans hbox
     gi_wp2
     go_roundw
     case rel=>exact⟨i+1,by go_num,by omega,hbox3,by rw[hids];exact hJ3⟩
     case measure=>simp[intOf];omega
    ·gi_wp2
     refine bodyPost_ret (results_none rfl _ _ _) rfl ?_;exact⟨⟨_,rfl⟩,.inr ⟨_,trivial,hx3⟩⟩
   |false=>
    rw[hb]at H;have hids:=ER hb
    gi_wp2_with (refine⟨trivial,?_⟩;gi_at_call 19;refine(callsIn_wide.2 (H.out _)).mono ?_;rintro en w2 ⟨rfl,hw2⟩;replace hw2:=hw2.symm;subst hw2)
    refine⟨fun _ h=>(by cases h),?_⟩
    gi_wp2
    go_roundw
    case rel=>exact⟨i+1,by go_num,by omega,hbox,by rw[hids];exact hJ⟩
    case measure=>simp[intOf];omega
  ·have di:decide ((i:Int)<10)=false:=by simp;omega
   have hi10:i=10:=by omega
   subst hi10
   gi_wp2
   go_end0;exact⟨⟨_,rfl⟩,.inl ⟨_,rfl,hJ⟩⟩
theorem OK(n:Nat)(hn:1≤n)(Bn n₀:Nat)(M:Int)(w:World)(hBn:Boxed w Bn 22 (.int .i64 M)):SeqStopsK Fence.wide n Tryz.prog 128 #[.pointer (some ⟨Bn,0,none⟩)] (fun x:Nat=>#[Value.int .i64 (x:Int)]) (EH n₀ Bn) (fun ys=>ys=CH (xOf M) 10) (fun _=>True) 10 w:=fun l J Jx W hW _ _ hY h0=>
 PS n hn l Bn n₀ M J Jx hY W ((hW.block Bn hBn.lt).trans hBn) h0
theorem NS(M:Int)(w:World):Calls Tryz.prog 86 #[.int .i64 M] w fun e w'=>e= .returned (.func (.func 128) #[] #[.pointer (some ⟨w.heap.size,0,none⟩)])∧w'=w.alloc (.cells #[.int .i64 M] 22):=by
 go_enter Tryz.func86,Tryz.ntmps86;go_wp2;go_ret;exact⟨rfl,rfl⟩
theorem OL:(Tryz.prog.info? 3).map (fun i=>(i.zero,i.size,i.bytes))=some (some (.int .i64 0),1,8):=by kernel_rfl
theorem NT(M:Int)(w:World):Calls Tryz.prog 52 #[.int .i64 M] w fun e w'=>∃v,e= .returned v∧w'.ownsRow w.heap.size 3 1 v (CH (xOf M) 10).length ((CH (xOf M) 10).map fun i:Nat=>Value.int .i64 (i:Int))∧Below w.heap.size w w':=by
 obtain⟨i0,hi,hz0,hz1,hz2⟩:=info_parts OL;have HMem:=AA (fun W=>NS M W);refine(callsIn_wide (n:=3)).1 ?_;refine callsIn_of_wp_marks Tryz.func52 rfl trivial ?_ rfl;simp only[Tryz.ntmps52,List.size_toArray,Af,List.length_nil,Nat.reduceAdd,Nat.reduceSub,Array.replicate_succ,Array.replicate_zero,List.push_toArray,List.append_toArray,List.nil_append,List.cons_append]
 gi_wp2_with (refine⟨trivial,?_⟩;gi_at_call 86;refine(callsIn_wide.2 (HMem.out _)).mono ?_;rintro e w' ⟨rfl,rfl⟩)
 have bO:=Boxed.new w 114 (.slice none 0 0);have bN:=Boxed.new (w.alloc (.cells #[.slice none 0 0] 114)) 22 (.int .i64 M);rw[World.size_alloc]at bN;have hB0:Below w.heap.size w ((w.alloc (.cells #[.slice none 0 0] 114)).alloc (.cells #[.int .i64 M] 22)):=((AC _ w).alloc (AB _) _).alloc (by simp) _;refine wpIn_rangeFunc_ownG rfl (by omega) (gf:=128) (lb:=#[.pointer (some ⟨w.heap.size+1,0,none⟩)]) rfl trivial (enters_of Tryz.func128 (by kernel_rfl) rfl)
  (OK (3-1) (by omega) (w.heap.size+1) w.heap.size M _ bN) (Kp:=EH w.heap.size (w.heap.size+1)) LD (fun W l o o' hl hlo hc hwk=>⟨belowK_b (w:=(w.alloc (.cells #[.slice none 0 0] 114)).alloc (.cells #[.int .i64 M] 22)) (by simp;omega) W l o o' hl hlo hc hwk,(grownBy_putObj' W l o').block _ (by have:=(Aa.1 hlo).1;simp at hl;omega) (fun e=>by cases e;rw[World.size_alloc,World.size_alloc]at hl;omega)⟩) (AC _ _) (by intro x;rfl)
  (fun pre W=>((∃v,Boxed W w.heap.size 114 v∧W.ownsRow w.heap.size 3 1 v pre.length (pre.map fun i:Nat=>Value.int .i64 (i:Int))∧True)∧Boxed W (w.heap.size+1) 22 (.int .i64 M))∧Below w.heap.size w W)
  (fun _ _ _=>False)
  (OwnFrom.and (OwnFrom.and (Own.from (holdsRow_own w.heap.size w.heap.size 114 3 1 (fun pre:List Nat=>pre.length) (fun pre=>pre.map fun i:Nat=>Value.int .i64 (i:Int)) (fun _ _=>True)) _) (Own.from (boxed_own (w.heap.size+1) 22 (fun _=>.int .i64 M)) _)) (ownFrom_below (AB _) (by simp;omega)))
  (fun _ _ _ _ _ hs _ _=>hs)
  ⟨⟨⟨_,bO.alloc _,World.ownsRow_nil _ _ _ _,trivial⟩,bN⟩,hB0⟩
  (fun x=>{tmps:=#[.int .i64 M,undef,.slice none 0 0,.pointer (some ⟨w.heap.size,0,none⟩),.int .i64 (x:Int),.int .i64 M,.func (.func 128) #[] #[.pointer (some ⟨w.heap.size+1,0,none⟩)],.int .i64 (x:Int),undef,undef,undef,undef,undef],defers:=[]}) ?assign ?body ?done ?stop
 case assign=>
  intro l x W K hK
  gi_wp2
  exact hK
 case body=>
  rintro l pre x W ⟨⟨⟨v,hv,hrow,_⟩,hm⟩,hB⟩ hlt;have hc:=hv.cell
  gi_wp2_with (gi_at_builtin;refine wpListIn_append_own _ rfl _ _ 114 rfl w.heap.size 3 i0 (.int .i64 0) 1 8 Tryz.underlying114 hi hz0 hz1 hz2 rfl (by decide) _ _ _ rfl (hrow.alloc _) ⟨W.heap.size,0,none⟩ 1 1 [.int .i64 (x:Int)] rfl rfl (cell_one_new _ _ _) (by simp[Value.oneCell']) (by unfold maxLen;omega) (by omega) (by have:=hB.size;simp;omega) ?_;intro v' w1 hown' hgrow _;obtain⟨g',cap',rfl⟩:=ownsRow_succ hown';obtain⟨hv1,hv2,hr2,hk2,hb2⟩:=hv.appended (by decide) hrow hB.size (AB _) hown' hgrow;have hc1:=hv1.cell;have hf1:=hv1.frozen)
  have hm1:Boxed w1 (w.heap.size+1) 22 (.int .i64 M):=(hm.alloc _).kept hgrow (hm.not_row (by decide) hrow);have hm2:=hm1.other (B':=w.heap.size) (by omega) (.slice (some ⟨g',0,none⟩) (pre.length+1) cap');exact⟨hk2.from _,⟨hb2,hm2.trans hm.symm⟩,⟨⟨_,hv2,by simpa using hr2,trivial⟩,hm2⟩,hB.trans hb2⟩
 case done=>
  rintro D ys W hD rfl ⟨⟨⟨v,hv,hrow,_⟩,hm⟩,hB⟩ hK;have hc:=hv.cell
  gi_wp2
  refine⟨by simp,.inl ⟨_,_,rfl,run_takeDeferred hK,?_⟩⟩;exact⟨_,results_tmp rfl _ _ _,v,rfl,ownsRow_putObj hrow _ hK rfl,hB.trans (belowK_b (w:=w) (AB _) W D _ _ (by simp at hD;omega) hK rfl rfl)⟩
 case stop=>
  rintro D c pre W _ _ h _;exact h.elim
end

def Bq(pr:Vt→Bool)(l:List Vt):Nat:=l.foldl (fun m v=>if pr v=true then m|||2^v.signer.toNat else m) 0
theorem FU(pr:Vt→Bool)(l:List Vt)(v:Vt):Bq pr (l++[v])=if pr v=true then Bq pr l|||2^v.signer.toNat else Bq pr l:=by
 simp[Bq,List.foldl_append]
theorem PT(pr:Vt→Bool):∀(l:List Vt) (m:Nat),m<1024→(∀v∈l,0≤v.signer∧v.signer≤9)→l.foldl (fun m v=>if pr v=true then m|||2^v.signer.toNat else m) m<1024
 |[],m,hm,_=>hm
 |v::r,m,hm,h=>by
  rw[List.foldl_cons];refine PT pr r _ ?_ (fun u hu=>h u (List.mem_cons_of_mem _ hu));have hv:=h v BB;split
  ·exact IK m _ hm (by omega)
  ·exact hm
theorem FV{pr:Vt→Bool}{l:List Vt}(h:∀v∈l,0≤v.signer∧v.signer≤9):Bq pr l<1024:=PT pr l 0 (by decide) h
theorem NU(pr:Vt→Bool)(i:Nat):∀(l:List Vt) (m:Nat),(l.foldl (fun m v=>if pr v=true then m|||2^v.signer.toNat else m) m).testBit i=true↔m.testBit i=true∨∃v∈l,pr v=true∧v.signer.toNat=i
 |[],m=>by simp
 |v::r,m=>by
  rw[List.foldl_cons,NU pr i r];by_cases hp:pr v=true
  ·rw[if_pos hp,Nat.testBit_or,Bool.or_eq_true,Nat.testBit_two_pow,decide_eq_true_eq,or_assoc];refine or_congr Iff.rfl ⟨?_,?_⟩
   ·rintro(h|⟨u,hu,h⟩)
    ·exact⟨v,BB,hp,h⟩
    ·exact⟨u,List.mem_cons_of_mem _ hu,h⟩
   ·rintro⟨u,hu,h⟩;rcases List.mem_cons.1 hu with rfl|hu
    ·exact .inl h.2
    ·exact .inr ⟨u,hu,h⟩
  ·rw[if_neg hp];simp[hp]
theorem LE{pr:Vt→Bool}{l:List Vt}{i:Nat}:(Bq pr l).testBit i=true↔∃v∈l,pr v=true∧v.signer.toNat=i:=by
 unfold Bq;rw[NU pr i l 0];simp
def IG(l:List Nat):Nat:=l.foldl (fun m i=>m|||2^i) 0
theorem PU:∀(l:List Nat) (m:Nat),m<1024→(∀i∈l,i≤9)→l.foldl (fun m i=>m|||2^i) m<1024
 |[],m,hm,_=>hm
 |j::r,m,hm,h=>by
  rw[List.foldl_cons];exact PU r _ (IK m _ hm (h j BB)) (fun u hu=>h u (List.mem_cons_of_mem _ hu))
theorem NV{l:List Nat}(h:∀i∈l,i≤9):IG l<1024:=PU l 0 (by decide) h
def Fv(S k:Nat):Nat:=IG ((CH S 10).take k)
theorem NW(S k:Nat):Fv S k<1024:=NV (fun i hi=>by have:=(GM.1 (List.mem_of_mem_take hi)).1;omega)
section
open Go.RowKit
open Go.ChangeMaps (setBlock)
section
variable {κ:Type}{enc:κ→Value}{w w':World}{m r cnt b:Nat}{l:List (κ×Value)}{P:Program}{kt:TypeId}{k:κ}
theorem Jr[DecidableEq κ](k:κ)(u v:Value):∀l,CJ k v (CJ k u l)=CJ k v l
 |[]=>by simp[CJ]
 |p::r=>by
  by_cases h:k=p.1
  ·rw[CJ,if_pos h,CJ,if_pos rfl,CJ,if_pos h]
  ·rw[CJ,if_neg h,CJ,if_neg h,Jr k u v r,CJ,if_neg h]
def Il[DecidableEq κ](enc:κ→Value)(w:World)(m:Nat)(l:List (κ×Value))(k:κ)(b:Nat):Prop:=
 ∃(es:Array MapEntry) (clock i:Nat) (e:MapEntry),w.heap[m]? =some (.map es clock)∧es.toList.map (fun e=>(e.key,e.val))=l.map (fun p=>(enc p.1,p.2))∧(es.toList.map (·.born)).Nodup∧(∀e∈es.toList,e.born<clock)∧es[i]? =some e∧e.born=b∧i<l.length∧∀v,CJ k v l=l.set i (k,v)
variable [DecidableEq κ]
theorem Il.isB(h:Il enc w m l k b):Bh enc w m l:=by
 obtain⟨es,c,i,e,h1,h2,h3,h4,_⟩:=h;exact⟨es,c,h1,h2,h3,h4⟩
theorem Bh.entryX(h:Bh enc w m l)(K:Es P kt enc){t e:TypeId}(ht:P.underlying t=some (.map kt e))(z:Value)(hz:∀w,(zeroValue e).run P w= .ok z w)(k:κ):∃(w':World) (b:Nat) (v:Value) (l':List (κ×Value)),(Instr.mapEntry t (.map (some m)) (enc k)).run P w= .ok (.tuple #[v,goInt (b:Int)]) w'∧Il enc w' m l' k b∧(∀k',BR k' l'=if k'=k then some ((BR k l).getD z)else BR k' l)∧(∀p∈l',p∈l∨p=(k,z))∧l'.length≤l.length+1∧w.grownBy w' (some m)∧w'.heap.size=w.heap.size:=by
 obtain⟨es,c,h1,h2,h3,h4⟩:=h;have hlt:=(Aa.1 h1).1;have put:∀o:Obj,({w with heap:=w.heap.setIfInBounds m o}:World).heap[m]? =some o:=fun o=>by simp[hlt]
 have gr:∀o:Obj,w.grownBy {w with heap:=w.heap.setIfInBounds m o} (some m):=fun o=>⟨rfl,rfl,rfl,by simp,fun i hi hne=>by
  have:m≠i:=fun e=>hne (by rw[e])
  simp[this]⟩
 have hlen:es.size=l.length:=by
  have:=congrArg List.length h2;simpa using this
 unfold Instr.mapEntry;simp only[Sem.run_bind,run_underlying ht,Result.andThen_ok,MapKept.run_getObj_map h1,K.check,D5 K k w es.toList l h2];rcases Ds K k w es.toList l 0 h2 with⟨a1,a2,a3⟩|⟨j,u,b1,⟨e',b2,b3,b4⟩,b5,b6,b7⟩
 ·rw[a3];simp only[Result.andThen_ok,Sem.run_bind,hz];rw[MapKept.run_setObj_map _ h1];refine⟨_,c,z,l++[(k,z)],rfl,⟨_,_,es.size,⟨enc k,z,c⟩,put _,?_,?_,?_,by simp,rfl,by rw[hlen,AI];simp,?_⟩,?_,?_,by simp,gr _,by simp⟩
  ·simp[h2]
  ·rw[Array.toList_push,Ac,List.nodup_append];refine⟨h3,by simp,?_⟩;intro x hx y hy;obtain⟨e1,he1,rfl⟩:=List.mem_map.1 hx;simp only[List.map_cons,List.map_nil,AR]at hy;have:=h4 e1 he1;omega
  ·intro x hx;rw[Array.toList_push]at hx;rcases AP.1 hx with hx|hx
   ·have:=h4 x hx;omega
   ·rw[AR.1 hx];exact Nat.lt_succ_self c
  ·intro v;rw[←a2 z,Jr,a2 v,a2 z,hlen,List.set_append_right _ _ (AB _),Nat.sub_self];rfl
  ·intro k';rw[←a2 z,Cy,a1];rfl
  ·intro p hp;rcases AP.1 hp with hp|hp
   ·exact .inl hp
   ·exact .inr (AR.1 hp)
 ·rw[b7];simp only[Result.andThen_ok,Sem.run_bind,Nat.zero_add];have he:es[j]? =some e':=by rw[←Array.getElem?_toList];exact b2
  have hs:(Instr.keyThatStays (((es[j]?).map (·.key)).getD (enc k)) (enc k)).run P w= .ok (enc k) w:=by
   rw[he];unfold Instr.keyThatStays;simp only[Option.map_some,Option.getD_some,b3,K.bits,if_true];rfl
  rw[hs];simp only[Result.andThen_ok];rw[MapKept.run_setObj_map _ h1];have hk:(l[j]?).map (fun p=>(enc p.1,p.2))=some (enc k,u):=by
   have h5:=congrArg (fun x=>x[j]?) h2;simp only[AU,b2,Option.map_some,b3,b4]at h5;exact h5.symm
  refine⟨_,e'.born,u,l,?_,⟨es.modify j fun e=>{e with key:=enc k},c,j,{e' with key:=enc k},put _,?_,?_,?_,by rw[Array.getElem?_modify,if_pos rfl,he];rfl,rfl,b6,b5⟩,?_,fun p hp=>.inl hp,by omega,gr _,by simp⟩
  ·simp[Result.andThen,he]
  ·apply List.ext_getElem?;intro i;have h6:=congrArg (fun x=>x[i]?) h2;simp only[AU,Array.getElem?_toList]at h6 ⊢;rw[Array.getElem?_modify];by_cases hij:j=i
   ·subst hij;rw[if_pos rfl,hk,he];simp[b4]
   ·rw[if_neg hij,h6]
  ·rw[C3 es j (fun e=>{e with key:=enc k}) (fun _=>rfl)];exact h3
  ·intro x hx;have hb:x.born∈(es.toList.map (·.born)):=by
    rw[←C3 es j (fun e=>{e with key:=enc k}) (fun _=>rfl)];exact List.mem_map.2 ⟨x,hx,rfl⟩
   obtain⟨y,hy,hyb⟩:=List.mem_map.1 hb;rw[←hyb];exact h4 y hy
  ·intro k';by_cases hk':k'=k
   ·rw[if_pos hk',hk',b1];rfl
   ·rw[if_neg hk']
theorem Il.store(h:Il enc w m l k b)(t:TypeId)(v:Value):∃(w':World),(Instr.entryStore t (.map (some m)) (goInt (b:Int)) v).run P w= .ok () w'∧Bh enc w' m (CJ k v l)∧(∀p∈CJ k v l,p∈l∨p=(k,v))∧(CJ k v l).length=l.length∧w.grownBy w' (some m)∧w'.heap.size=w.heap.size:=by
 obtain⟨es,c,i,e,h1,h2,h3,h4,h5,rfl,h7,h8⟩:=h;have hlt:=(Aa.1 h1).1;have put:∀o:Obj,({w with heap:=w.heap.setIfInBounds m o}:World).heap[m]? =some o:=fun o=>by simp[hlt]
 have gr:∀o:Obj,w.grownBy {w with heap:=w.heap.setIfInBounds m o} (some m):=fun o=>⟨rfl,rfl,rfl,by simp,fun i hi hne=>by
  have:m≠i:=fun e=>hne (by rw[e])
  simp[this]⟩
 have hkey:=Pg k i l h8 h7;obtain⟨p,hp,hpk⟩:=Option.map_eq_some_iff.1 hkey;have hf:es.findIdx? (fun x=>(x.born:Int)==(e.born:Int))=some i:=by
  have:=Fp es.toList i e h3 (by rw[Array.getElem?_toList];exact h5);rw[←List.findIdx?_toArray]at this;simpa using this
 have ha:∀W:World,(asInt (goInt (e.born:Int))).run P W= .ok (e.born:Int) W:=fun _=>rfl
 unfold Instr.entryStore;simp only[Sem.run_bind,MapKept.run_getObj_map h1,Result.andThen_ok,ha,hf];rw[h8 v];refine⟨_,MapKept.run_setObj_map _ h1,⟨_,_,put _,?_,?_,?_⟩,?_,by simp,gr _,by simp⟩
 ·apply List.ext_getElem?;intro j;have h6:=congrArg (fun x=>x[j]?) h2;simp only[AU,Array.getElem?_toList]at h6 ⊢;rw[Array.getElem?_modify,List.getElem?_set];by_cases hij:i=j
  ·subst hij;rw[h5,hp]at h6;simp only[Option.map_some,Option.some.injEq,Prod.mk.injEq]at h6;rw[if_pos rfl,if_pos rfl,if_pos h7,h5];simp[h6.1,hpk]
  ·simp[hij,h6]
 ·rw[C3 es i (fun e=>{e with val:=v}) (fun _=>rfl)];exact h3
 ·intro x hx;have hb:x.born∈(es.toList.map (·.born)):=by
   rw[←C3 es i (fun e=>{e with val:=v}) (fun _=>rfl)];exact List.mem_map.2 ⟨x,hx,rfl⟩
  obtain⟨y,hy,hyb⟩:=List.mem_map.1 hb;rw[←hyb];exact h4 y hy
 ·intro q hq;rcases List.mem_or_eq_of_mem_set hq with h|h
  ·exact .inl h
  ·exact .inr h
end
section
variable {κ:Type}{enc:κ→Value}{w w':World}{m r cnt:Nat}{l:List (κ×Value)}{P:Program}{vis vis':κ×Value→Prop}
def Co(enc:κ→Value)(w:World)(m r:Nat)(l:List (κ×Value))(cnt:Nat)(vis:κ×Value→Prop):Prop:=
 ∃es clock since c0 seen,w.heap[m]? =some (.map es clock)∧w.heap[r]? =some (.mapIter (some m) since seen c0)∧es.toList.map (fun e=>(e.key,e.val))=l.map (fun p=>(enc p.1,p.2))∧(es.toList.map (·.born)).Nodup∧(∀e∈es.toList,e.born<since)∧since≤c0∧since≤clock∧cnt=(leftOf es seen).size∧
  ∀(i:Nat) (e:MapEntry) (p:κ×Value),es.toList[i]? =some e→l[i]? =some p→seen.contains e.born=true→vis p
theorem Co.rng(h:Co enc w m r l cnt vis):Rng enc w m r l cnt:=by
 obtain⟨es,c,s,c0,seen,h1,h2,h3,h4,h5,h6,h7,h8,_⟩:=h;exact⟨es,c,s,c0,seen,h1,h2,h3,h4,h5,h6,h7,h8⟩
theorem Co.mono(h:Co enc w m r l cnt vis)(hv:∀p,vis p→vis' p):Co enc w m r l cnt vis':=by
 obtain⟨es,c,s,c0,seen,h1,h2,h3,h4,h5,h6,h7,h8,h9⟩:=h;exact⟨es,c,s,c0,seen,h1,h2,h3,h4,h5,h6,h7,h8,fun i e p a b d=>hv p (h9 i e p a b d)⟩
theorem Co.kept{row:Option Nat}(h:Co enc w m r l cnt vis)(hg:w.grownBy w' row)(hm:some m≠row)(hr:some r≠row):Co enc w' m r l cnt vis:=by
 have hl:=h.rng.lt;have hl2:=h.rng.mlt;obtain⟨es,c,s,c0,seen,h1,h2,h3⟩:=h;exact⟨es,c,s,c0,seen,(hg.block m hl2 hm).trans h1,(hg.block r hl hr).trans h2,h3⟩
theorem Co.below(h:Co enc w m r l cnt vis)(hb:Below w.heap.size w w'):Co enc w' m r l cnt vis:=by
 have hl:=h.rng.lt;have hl2:=h.rng.mlt;obtain⟨es,c,s,c0,seen,h1,h2,h3⟩:=h;exact⟨es,c,s,c0,seen,(hb.block m hl2).trans h1,(hb.block r hl).trans h2,h3⟩
theorem Co.alloc(h:Co enc w m r l cnt vis)(o:Obj):Co enc (w.alloc o) m r l cnt vis:=h.below ((AC _ _).alloc (AB _) _)
theorem Bh.rangeV(h:Bh enc w m l){t k e:TypeId}(ht:P.underlying t=some (.map k e))(vis:κ×Value→Prop):∃o cnt,(Instr.range t (.map (some m))).run P w= .ok (.pointer (some ⟨w.heap.size,0,none⟩)) (w.alloc o)∧Co enc (w.alloc o) m w.heap.size l cnt vis:=by
 have hl:=h.is.lt;obtain⟨es,c,h1,h2,h3,h4⟩:=h;exact⟨_,_,run_range_map w t k e m es c ht h1,es,c,c,c,#[],(Below.heap_alloc w _ m hl).trans h1,heap_alloc_new w _,h2,h3,h4,AB _,AB _,rfl,fun i e p _ _ h=>by simp at h⟩
theorem Co.next(h:Co enc w m r l cnt vis)(ty:TypeId):((Instr.next (.pointer (some ⟨r,0,none⟩)) false ty).run P w= .ok (.tuple #[.bool false]) w∧∀p∈l,vis p)∨∃k v w' cnt',(k,v)∈l∧(Instr.next (.pointer (some ⟨r,0,none⟩)) false ty).run P w= .ok (.tuple #[.bool true,enc k,v]) w'∧Co enc w' m r l cnt' (fun p=>vis p∨p=(k,v))∧cnt'<cnt∧w.grownBy w' (some r)∧w'.heap.size=w.heap.size∧(Instr.entry (.pointer (some ⟨r,0,none⟩))).run P w'= .ok (.tuple #[enc k,v]) w':=by
 have hrl:=h.rng.lt;obtain⟨es,c,s,c0,seen,h1,h2,h3,h4,h5,h6,h7,h8,hv⟩:=h;have hmr:m≠r:=fun e=>by rw[e,h2]at h1;cases h1
 rcases run_next_at (P:=P) w ty r m s c0 seen es c h2 h1 h5 h6 with⟨h0,hrun⟩|⟨e,he,w1,hal,hrun⟩
 ·refine .inl ⟨hrun,fun p hp=>?_⟩;obtain⟨i,hi⟩:=List.mem_iff_getElem?.1 hp;have h9:=congrArg (fun x=>x[i]?) h3;simp only[AU,hi,Option.map_some]at h9;obtain⟨e,he,_⟩:=Option.map_eq_some_iff.1 h9;exact hv i e p he hi (all_seen es seen h0 e (AM he))
 ·have hmem:=mem_left he;obtain⟨i,hi⟩:=List.mem_iff_getElem?.1 hmem.1;have h9:=congrArg (fun x=>x[i]?) h3;simp only[AU,hi,Option.map_some]at h9;obtain⟨p,hp,hpe⟩:=Option.map_eq_some_iff.1 h9.symm;injection hpe with e1 e2
  obtain⟨w2,hw2⟩:∃w2,w2=setBlock w1 r (.mapIter (some m) s (seen.push e.born) c):=⟨_,rfl⟩;rw[←hw2]at hrun;have hs1:w1.heap=w.heap:=by rcases hal with rfl|rfl <;> rfl
  have hr2:w2.heap[r]? =some (.mapIter (some m) s (seen.push e.born) c):=by rw[hw2];simp[setBlock,hs1,hrl]
  have hm2:w2.heap[m]? =some (.map es c):=by rw[hw2];simp[setBlock,hs1,Ne.symm hmr,h1]
  refine .inr ⟨p.1,p.2,w2,_,AM hp,?_,⟨es,c,s,c,seen.push e.born,hm2,hr2,h3,h4,h5,h7,h7,rfl,?_⟩,?_,?_,?_,?_⟩
  ·rw[hrun,e1,e2]
  ·intro j e' p' he' hp' hc;rw[contains_push,Bool.or_eq_true]at hc;rcases hc with hc|hc
   ·exact .inl (hv j e' p' he' hp' hc)
   ·right;have hbb:e'.born=e.born:=by simpa using hc
    have hij:j=i:=by
     have ha:(es.toList.map (·.born))[j]? =some e.born:=by rw[AU,he',←hbb];rfl
     have hb:(es.toList.map (·.born))[i]? =some e.born:=by rw[AU,hi];rfl
     exact(List.getElem?_inj (AG.1 ha).1 h4).1 (ha.trans hb.symm)
    subst hij;rw[hp]at hp';exact(Option.some.inj hp').symm
  ·rw[h8];exact left_shrinks es seen e he
  ·refine⟨?_,?_,?_,?_,fun i hi hne=>?_⟩
   ·rw[hw2];rcases hal with rfl|rfl <;> rfl
   ·rw[hw2];rcases hal with rfl|rfl <;> rfl
   ·rw[hw2];rcases hal with rfl|rfl <;> rfl
   ·rw[hw2];simp[setBlock,hs1]
   ·have:r≠i:=fun e=>hne (by rw[e])
    rw[hw2];simp[setBlock,hs1,this]
  ·rw[hw2];simp[setBlock,hs1]
  ·rw[e1,e2];exact run_entry_at w2 r m s seen es c e hr2 hm2 hmem.1 h4
end
section
variable {κ:Type}{enc:κ→Value}{P:Program}(w:World){ops:Array Oper}{rest:List Oper}{o:Oper}{a:Act}{Q:Exit→Act→World→Prop}
theorem C8(hg:o.guard=none)(mo:Operand)(t:TypeId)(hop:o.op=Op.range t mo)(k e:TypeId)(ht:P.underlying t=some (.map k e))(m:Nat)(l:List (κ×Value))(hm:a.eval mo= .map (some m))(h:Bh enc w m l)(vis:κ×Value→Prop)(hK:∀o' cnt,Co enc (w.alloc o') m w.heap.size l cnt vis→wpList P ops Q rest (a.put o.dst (.pointer (some ⟨w.heap.size,0,none⟩))) (w.alloc o')):wpList P ops Q (o::rest) a w:=by
 refine wpList_plain hg fun K' hK'=>?_
 obtain⟨o',cnt,hrun,hr⟩:=h.rangeV ht vis;unfold Oper.wp;simp[execOp,hop,hm,hrun,Result.andThen];exact hK' _ _ (hK o' cnt hr)
theorem DL(hg:o.guard=none)(it:Operand)(hop:o.op=Op.next it false)(m r cnt:Nat)(l:List (κ×Value))(vis:κ×Value→Prop)(hit:a.eval it= .pointer (some ⟨r,0,none⟩))(h:Co enc w m r l cnt vis)(hDone:(∀p∈l,vis p)→wpList P ops Q rest (a.put o.dst (.tuple #[.bool false])) w)(hMore:∀k v w' cnt',(k,v)∈l→Co enc w' m r l cnt' (fun p=>vis p∨p=(k,v))→cnt'<cnt→w.grownBy w' (some r)→w'.heap.size=w.heap.size→(Instr.entry (.pointer (some ⟨r,0,none⟩))).run P w'= .ok (.tuple #[enc k,v]) w'→wpList P ops Q rest (a.put o.dst (.tuple #[.bool true,enc k,v])) w'):wpList P ops Q (o::rest) a w:=by
 refine wpList_plain hg fun K' hK'=>?_
 unfold Oper.wp;rcases h.next (P:=P) o.type with⟨hrun,hd⟩|⟨k,v,w',cnt',hmem,hrun,hr,hlt,hgr,hsz,hen⟩
 ·simp[execOp,hop,hit,hrun,Result.andThen];exact hK' _ _ (hDone hd)
 ·simp[execOp,hop,hit,hrun,Result.andThen];exact hK' _ _ (hMore k v w' cnt' hmem hr hlt hgr hsz hen)
end
end
section
open Go.RowKit
attribute [local go_sem ↓] Go.wp_at_zero Go.wp_at_succ An
attribute [local go_sem] BD AN AW AQ
abbrev CI(s:Nm)(m:Nat):Array Value:=#[B s.b0,B s.b1,B s.b2,B s.b3,B s.b4,B s.b5,B s.b6,B s.b7,I 2,.map (some m)]
def KP(w:World)(s:Nm)(e:Ending)(w':World):Prop:=
 ∃h m,e= .returned (.pointer (some ⟨h,0,none⟩))∧w.heap.size≤h∧w.heap.size≤m∧h≠m∧Blk w' h 152 (CI s m)∧w'.heap[m]? =some (.map #[] 0)∧Below w.heap.size w w'
theorem Dw(s:Nm)(w:World):Calls Tryz.prog 51 #[s.val,.int .i64 2] w (KP w s):=by
 have hx:AK (w.alloc (.cells s.cells 24)) w.heap.size 0 8=some s.cells:=(Blk.new w _ _).row 8 rfl;have hmk:∀W:World,(Instr.makeMap 150 none).run Tryz.prog W= .ok (.map (some W.heap.size)) (W.alloc (.map #[] 0)):=fun W=>rfl
 go_enter Tryz.func51,Tryz.ntmps51;go_wp2_with (go_at_call 78;refine(FL _).mono ?_;rintro en w2 ⟨rfl,rfl⟩)
 go_ret;refine⟨w.heap.size+2,w.heap.size+1,rfl,by omega,by omega,by omega,?_,?_,(((AC _ _).alloc (AB _) _).alloc (by simp) _).alloc (by simp;omega) _⟩
 ·have:=Blk.new ((w.alloc (.cells s.cells 24)).alloc (.map #[] 0)) 152 (CI s (w.heap.size+1));simpa using this
 ·have h1:=heap_alloc_new (w.alloc (.cells s.cells 24)) (.map #[] 0);have h2:=Below.heap_alloc ((w.alloc (.cells s.cells 24)).alloc (.map #[] 0)) (.cells (CI s (w.heap.size+1)) 152) (w.heap.size+1) (by simp);rw[show(w.alloc (.cells s.cells 24)).heap.size=w.heap.size+1 from by simp]at h1;exact h2.trans h1
theorem Js(s:Nm)(h m:Nat)(w:World)(hB:Blk w h 152 (CI s m)):Calls Tryz.prog 90 #[.pointer (some ⟨h,0,none⟩)] w fun e w'=>e= .returned (.bool true)∧w'=w:=by
 have c9:w.cell? ⟨h,9,none⟩=some (.map (some m)):=hB.cell 9;clear hB;have hne:∀W,(binOp .neq 150 (.map (some m)) (.map none)).run Tryz.prog W= .ok (.bool true) W:=fun W=>by first|rfl|kernel_rfl|(simp[binOp];rfl)
 go_enter Tryz.func90,Tryz.ntmps90;go_wp2;go_ret;exact⟨rfl,rfl⟩
end
section
open Go.RowKit
def Im(seed:Nm)(c:Nat):Nm:=De (32::(seed.bytes++[UInt8.ofNat c]))
def Dx(seed:Nm)(c:Nat):Nm:=FJ (Im seed c) c 0 15
def PV(seed:Nm):Nm:=TG ((List.range 18).map (Dx seed))
def FW(seed m:Nm)(c:Nat):Nm:=FJ (Im seed c) c 0 ((FI m).getD c 0)
def In(seed m:Nm):List Nm:=(List.range 18).map (FW seed m)
def LG(s:Nm)(level number j:Nat):Nm:=De (48::(s.bytes++[UInt8.ofNat level,UInt8.ofNat (number/256),UInt8.ofNat number,UInt8.ofNat j]))
def Gt(s:Nm)(level number j:Nat):Nm:=PV (LG s level number j)
def ES(s:Nm)(level number:Nat):List Nm:=(List.range 32).map (Gt s level number)
def E8:Nat→List Nm→Nm
 |0,l=>UA (l.getD 0 Nm.zero)
 |d+1,l=>T8 18 (E8 d (l.take (2^d))) (E8 d (l.drop (2^d)))
def E9:Nat→Nat→List Nm→List Nm
 |0,_,_=>[]
 |d+1,i,l=>if i<2^d then E9 d i (l.take (2^d))++[E8 d (l.drop (2^d))]else E9 d (i-2^d) (l.drop (2^d))++[E8 d (l.take (2^d))]
def GN(s:Nm)(level number j:Nat)(m:Nm):List UInt8:=(In (LG s level number j) m++E9 5 j (ES s level number)).flatMap Nm.bytes
def EI(s:Nm)(leaf:Nat)(m:Nm):List UInt8:=
 [UInt8.ofNat (leaf/256),UInt8.ofNat leaf]++GN s 1 (leaf/32) (leaf%32) m++GN s 2 0 (leaf/32) (E8 5 (ES s 1 (leaf/32)))
theorem Io(seed m:Nm):(In seed m).length=18:=by simp[In]
theorem Jt(s:Nm)(level number:Nat):(ES s level number).length=32:=by simp[ES]
theorem DM:∀(d i:Nat) (l:List Nm),(E9 d i l).length=d
 |0,_,_=>rfl
 |d+1,i,l=>by
  rw[E9];split <;> simp[DM d]
theorem MU(l:List Nm):(l.flatMap Nm.bytes).length=8*l.length:=by
 induction l with
 |nil=>rfl
 |cons a r ih=>rw[List.flatMap_cons,AI,ih,Af];simp[Nm.bytes];omega
theorem Ju(s:Nm)(level number j:Nat)(m:Nm):(GN s level number j m).length=184:=by
 rw[GN,MU,AI,Io,DM]
theorem Ip(s:Nm)(leaf:Nat)(m:Nm):(EI s leaf m).length=370:=by
 rw[EI,AI,AI,Ju,Ju];rfl
end
end Go.Proofs.YtadllffeoibelaaGreat
