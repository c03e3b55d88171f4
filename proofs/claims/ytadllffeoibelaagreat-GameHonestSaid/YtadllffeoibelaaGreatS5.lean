/-
  What these parts of the proof come to, functions walked and plain laws: Walk, Pub, Names, Dig, Rec, RecR, MVer, VoteP, Name. No condition.
-/
import Derived.Test.YtadllffeoibelaaGreatS4
import Derived.ArgAppend
import Derived.Deep.DeepCutAuto
namespace Go.Proofs.YtadllffeoibelaaGreat
set_option maxRecDepth 100000
set_option maxHeartbeats 32000000
section
open Go.RowKit
abbrev BG:Array Value:=#[.int .u8 0,.int .u8 0,.int .u8 0,.int .u8 0,.int .u8 0,.int .u8 0,.int .u8 0,.int .u8 0]
theorem JS(n:Nat)(h:n≤255):B (UInt8.ofNat n)= .int .u8 (n:Int):=by
 rw[Value.int.injEq];refine⟨rfl,?_⟩;simp;omega
theorem Ck{w w1 w2:World}(hb:Below w.heap.size w w1)(hg:w1.grownBy w2 none):Below w.heap.size w w2:=hb.grown hg hb.size (by rintro k ⟨⟩)
theorem MA(v:Nm)(c p q:Nat)(w:World)(hc:c≤255)(hpq:p≤q)(hq:q≤255):Calls Tryz.prog 188 #[v.val,.int .i64 (c:Int),.int .i64 (p:Int),.int .i64 (q:Int)] w (BT w (FJ v c p (q-p))):=by
 obtain⟨i0,hi,hz0,hz1,hz2⟩:=info_parts Bt;go_enter Tryz.func188,Tryz.ntmps188;go_wp2;have hX:Blk ((w.alloc (Obj.cells v.cells 24)).alloc (Obj.cells BG 24)) w.heap.size 24 v.cells:=(Blk.new w _ _).alloc _;have hR:Blk ((w.alloc (Obj.cells v.cells 24)).alloc (Obj.cells BG 24)) (w.heap.size+1) 24 BG:=by
  have:=Blk.new (w.alloc (Obj.cells v.cells 24)) 24 BG;simpa using this
 have hbW:Below w.heap.size w ((w.alloc (Obj.cells v.cells 24)).alloc (Obj.cells BG 24)):=((AC _ _).alloc (AB _) _).alloc (by simp) _;generalize ((w.alloc (Obj.cells v.cells 24)).alloc (Obj.cells BG 24))=W at*
 go_loopw [13] (fun i wr=>∃k:Nat,k≤q-p∧i= .int .i64 k∧Blk wr w.heap.size 24 (FJ v c p k).cells∧Blk wr (w.heap.size+1) 24 BG∧Below w.heap.size w wr)
  (fun i _=>q-(intOf i).toNat)
 case atStart=>exact⟨0,by omega,rfl,hX,hR,hbW⟩
 case round=>
  clear hX hR hbW;obtain⟨k,hk,rfl,hX,hR,hb⟩:=hrel;by_cases hlt:k<q-p
  ·obtain⟨r,hr⟩:∃r,r=FJ v c p (k+1):=⟨_,rfl⟩;have hr2:De (33::((FJ v c p k).bytes++[UInt8.ofNat c,UInt8.ofNat (p+k)]))=r:=by rw[hr];rfl
   have Hr:=AA hr;clear hr;have Hr2:=AA hr2;clear hr2;generalize FJ v c p k=x at*;have hb1:=JS c hc;have hb2:=JS (p+k) (by omega);generalize UInt8.ofNat c=b1 at*;generalize UInt8.ofNat (p+k)=b2 at*;have HB1:=AA hb1;clear hb1;have HB2:=AA hb2;clear hb2;have hlt2:k+p<q:=by omega
   have hltX:=hX.lt;go_wp2_with (at_builtin;refine wpList_append_grows _ rfl (.tmp 16) (.tmp 23) _ rfl 5 i0 (.int .u8 0) 1 1 Tryz.underlying60 hi hz0 hz1 hz2 rfl (by decide) (some ⟨w.heap.size,0,none⟩) 8 8 (x.bytes.map B) rfl ?r0 rfl ?r1 ⟨wr.heap.size,0,none⟩ 2 2 [B b1,B b2] rfl rfl ?r2 ?r3 ?r4 ?r5 ?r6 ?_)
   case r0=>intro h;cases h
   case r1=>
    intro b hbe j u hu;injection hbe with hbe;subst hbe
    rw[Addr.add_mid,Nat.zero_add,(hX.alloc _).cell];simpa[Nm.bytes]using hu
   case r2=>
    intro j u hu;rw[Addr.add_mid,Nat.zero_add,(Blk.new wr _ _).cell,←hu,HB1.out,HB2.out];simp
   case r3=>intro u hu;simp at hu;rcases hu with rfl|rfl <;> rfl
   case r4=>omega
   case r5=>unfold maxLen;omega
   case r6=>omega
   intro v2 w2 hown2 hg2;have hX2:=(hX.alloc _).kept hg2 (by simp);have hR2:=(hR.alloc _).kept hg2 (by simp);have hb2:=Ck (hb.alloc hb.size _) hg2;have e:x.bytes.map B++[B b1,B b2]=(x.bytes++[b1,b2]).map B:=by simp
   rw[e]at hown2;obtain⟨A2,c2,rfl⟩:=Ar hown2;have hcall:Calls Tryz.prog 50 #[.int .u8 33,.slice A2 (8+2) c2] w2 (BT w2 r):=B8 33 A2 c2 (x.bytes++[b1,b2]) r w2 (Rd.of_own hown2) (by simp[Nm.bytes]) Hr2.out;have HC:=AA hcall;clear hcall e hown2 hg2 hX hR hb;go_wp2_with fail
   refine HC.out.mono ?_;rintro en w3 ⟨rfl,hb3⟩;have hX3:=hX2.below hb3 hX2.lt;have hR3:=hR2.below hb3 hR2.lt;have hbw3:=hb2.trans (hb3.mono hb2.size);clear hX2 hR2 hb2 hb3 HC;go_wp2_with (refine AJ rfl 24 (.tmp 4) (.tmp 25) rfl w.heap.size _ rfl rfl 24 _ hX3 rfl Ap ?s2 ?_)
   case s2=>exact⟨rfl,rfl,rfl,rfl,rfl,rfl,rfl,rfl⟩
   intro w4 hX4 hg4 hs4;have hbw4:Below w.heap.size w w4:=hbw3.grown hg4 hbw3.size (by rintro j ⟨⟩;omega);have hR4:=hR3.kept hg4 (by simp);clear hX3 hR3 hbw3 hg4 hs4;go_wp2;go_roundw
   case rel=>exact⟨k+1,by omega,by go_num,by rw[←Hr.out];exact hX4,hR4,hbw4⟩
   case measure=>simp[intOf];omega
  ·have hkq:q-p=k:=by omega
   have h1:k+p≤q:=by omega
   have h2:q≤k+p:=by omega
   have Hk:=AA hkq;clear hkq hlt hk;obtain⟨x,hx⟩:∃x,x=FJ v c p k:=⟨_,rfl⟩;rw[←hx]at hX;have Hx:=AA hx;clear hx;have hltX:=hX.lt;go_wp2_with (first
    |(refine wpList_load_row rfl 24 _ rfl w.heap.size rfl 24 x.cells (0,0) _ hX Tryz.underlying24 rfl Ap ?_)
    |(refine AJ rfl 24 (.tmp 8) (.tmp 27) rfl (w.heap.size+1) _ rfl rfl 24 _ hR rfl Ap ?s3 ?_))
   case s3=>exact⟨rfl,rfl,rfl,rfl,rfl,rfl,rfl,rfl⟩
   intro w4 hR4 hg4 hs4;go_wp2;have hbw4:Below w.heap.size w w4:=hb.grown hg4 hb.size (by rintro j ⟨⟩;omega);exact bodyPost_ret (results_cell_row (g:=w.heap.size+1) rfl _ _ _ _ _ _ rfl hR4 Tryz.underlying24 rfl Ap) rfl ⟨by rw[Hk.out,←Hx.out],hbw4⟩
theorem nmb(l:List Nm):l.flatMap nmc=(l.flatMap Nm.bytes).map B:=by
 induction l with
 |nil=>rfl
 |cons a r ih=>rw[List.flatMap_cons,List.flatMap_cons,Ac,ih];rfl
theorem N6(l:List Nm)(k:Nat)(x:Nm)(h:l[k]? =some x):(l.take (k+1)).flatMap Nm.bytes=(l.take k).flatMap Nm.bytes++x.bytes:=by
 obtain⟨hk,rfl⟩:=AG.1 h;rw[F6 l k hk,Ad];simp
theorem TO(l:List Nm):(l.flatMap Nm.bytes).length=8*l.length:=by
 induction l with
 |nil=>rfl
 |cons a r ih=>rw[List.flatMap_cons,AI,ih,Af];simp[Nm.bytes];omega
theorem N7{w:World}{base e size n:Nat}{v:Value}{xs:List Value}(h:w.ownsRow base e size v n xs):v.ownBlock=none∨v.ownBlock≠some w.heap.size:=
 .inr fun hv=>by have:=(h.lt _ hv).2;omega
theorem Rd.name{w:World}{B':Nat}{A:Option Addr}{l:List Nm}(h:Rd w B' A (l.flatMap nmc)){k:Nat}{x:Nm}(hk:l[k]? =some x):∃b o,A=some ⟨b,o,none⟩∧b<B'∧∀j u,x.cells[j]? =some u→w.cell? ⟨b,o+k*8+j,none⟩=some u:=by
 have hpos:=(AG.1 hk).1;obtain⟨b,o,rfl,hb,hc⟩:=h.cells (by
  intro e;have:=AX nmc 8 l (Cb l);rw[e]at this;simp at this;omega)
 refine⟨b,o,rfl,hb,fun j u hu=>?_⟩;have hj:j<8:=(Aa.1 hu).1;rw[Nat.add_assoc];refine hc _ u ?_;rw[CG nmc 8 l (Cb l) k j x hk hj,←hu];simp
theorem M7(A:Option Addr)(c:Nat)(l:List Nm)(w:World)(hr:Rd w w.heap.size A (l.flatMap nmc))(hlen:l.length≤1000):Calls Tryz.prog 190 #[.slice A l.length c] w (BT w (TG l)):=by
 have hmk:∀W:World,(Instr.makeSlice 60 (.int .i64 0) (.int .i64 144)).run Tryz.prog W= .ok (.slice (some ⟨W.heap.size,0,none⟩) 0 144) (W.alloc (.cells (Array.replicate 144 (.int .u8 0)) 5)):=fun W=>by kernel_rfl
 have HR:=AA hr;clear hr;obtain⟨z144,hz⟩:∃z,z=Array.replicate 144 (Value.int .u8 0):=⟨_,rfl⟩;rw[←hz]at hmk;have hzs:z144.size=144:=by rw[hz];simp
 have Hz:=AA hzs;clear hz hzs;go_enter Tryz.func190,Tryz.ntmps190;go_wp2;clear hmk;have hR:Blk ((w.alloc (Obj.cells BG 24)).alloc (Obj.cells z144 5)) w.heap.size 24 BG:=(Blk.new w _ _).alloc _;have hown:((w.alloc (Obj.cells BG 24)).alloc (Obj.cells z144 5)).ownsRow w.heap.size 5 1 (.slice (some ⟨w.heap.size+1,0,none⟩) 0 144) 0 (([]:List UInt8).map B):=by
  have h:=World.ownsRow_made (base:=w.heap.size) (e:=5) (size:=1) (w.alloc (Obj.cells BG 24)) z144 144 (by simp) (by unfold maxLen;omega) (by rw[Hz.out]);simpa using h
 have hbW:Below w.heap.size w ((w.alloc (Obj.cells BG 24)).alloc (Obj.cells z144 5)):=((AC _ _).alloc (AB _) _).alloc (by simp) _;generalize ((w.alloc (Obj.cells BG 24)).alloc (Obj.cells z144 5))=W at*
 go_loopw [3,9] (fun v i wr=>∃k:Nat,k≤l.length∧i= .int .i64 k∧wr.ownsRow w.heap.size 5 1 v (8*k) (((l.take k).flatMap Nm.bytes).map B)∧Blk wr w.heap.size 24 BG∧Below w.heap.size w wr)
  (fun _ i _=>l.length-(intOf i).toNat)
 case atStart=>exact⟨0,by omega,rfl,hown,hR,hbW⟩
 case round=>
  clear hown hR hbW;obtain⟨k,hk,rfl,hown,hR,hb⟩:=hrel;by_cases hlt:k<l.length
  ·obtain⟨x,hx⟩:∃x,l[k]? =some x:=⟨_,AE hlt⟩;have e1:=N6 l k x hx;have E1:=AA e1;clear e1;obtain⟨b,o,rfl,hbk,hcell⟩:=Rd.name (HR.out.below hb) hx;generalize List.flatMap Nm.bytes (l.take k)=bs at*;have Hx:=AA hx;clear hx;have Hcell:=AA hcell;clear hcell;go_wp2_with (first
    |(refine FF rfl 24 _ rfl b (o+k*8) rfl x.cells _ Hcell.out Tryz.underlying24 rfl Ap ?_)
    |(refine AJ rfl 24 (.tmp 5) (.tmp 12) rfl wr.heap.size _ rfl rfl 24 _ (Blk.new wr _ _) rfl Ap ?s1 ?_))
   case s1=>exact⟨rfl,rfl,rfl,rfl,rfl,rfl,rfl,rfl⟩
   intro w2 hV2 hg2 hs2;have hown2:=(hown.alloc _).kept hg2 (N7 hown);have hR2:=(hR.alloc _).kept hg2 (by have:=hR.lt;simp;omega);have hb2:Below w.heap.size w w2:=(hb.alloc hb.size _).grown hg2 (by have:=hb.size;simp;omega) (by rintro j ⟨⟩;exact hb.size);clear hown hR hb hg2;have hltV:=hV2.lt;clear hs2;go_wp2_with (at_builtin;refine Aq rfl (.tmp 13) (.tmp 14) _ rfl w.heap.size 5 (.int .u8 0) 1 1 Tryz.underlying60 Bt rfl (by decide) _ (8*k) _ rfl hown2 w2.heap.size _ 8 8 (x.bytes.map B) rfl rfl ?r1 ?r2 ?r3 ?r4 ?r5 ?_)
   case r1=>
    have h:=Rd.of_blk hV2 0 8;simpa[Nm.bytes]using h
   case r2=>exact fun u hu=>B3 hu
   case r3=>omega
   case r4=>unfold maxLen;omega
   case r5=>exact hb2.size
   intro v3 w3 hown3 hg3 hat3;have hb3:=BL hb2 hown2 hg3;have hR3:=hR2.kept hg3 (CC hown2 hR2 (by decide));clear hown2 hb2 hR2 hV2 hltV hg3 hat3;go_wp2;go_roundw
   case rel=>exact⟨k+1,by omega,by go_num,by rw[E1.out,Ac];exact hown3,hR3,hb3⟩
   case measure=>simp[intOf];omega
  ·obtain rfl:k=l.length:=by omega
   rw[AT (AB _)]at hown;obtain⟨r,hr⟩:∃r,r=TG l:=⟨_,rfl⟩;have hr2:De (34::l.flatMap Nm.bytes)=r:=hr.symm;have Hr:=AA hr;clear hr;have Hr2:=AA hr2;clear hr2;have hbl:=TO l;obtain⟨A2,c2,rfl⟩:=Ar hown;have hcall:Calls Tryz.prog 50 #[.int .u8 34,.slice A2 (8*l.length) c2] wr (BT wr r):=by
    rw[←hbl];exact B8 34 A2 c2 (l.flatMap Nm.bytes) r wr (by rw[←hbl]at hown;exact Rd.of_own hown) (by rw[hbl];omega) Hr2.out
   have HC:=AA hcall;clear hcall hown hbl;go_wp2_with fail
   refine HC.out.mono ?_;rintro en w3 ⟨rfl,hb3⟩;have hR3:=hR.below hb3 hR.lt;have hbw3:=hb.trans (hb3.mono hb.size);clear hR hb hb3 HC;go_wp2_with (refine AJ rfl 24 (.tmp 2) (.tmp 18) rfl w.heap.size _ rfl rfl 24 _ hR3 rfl Ap ?s2 ?_)
   case s2=>exact⟨rfl,rfl,rfl,rfl,rfl,rfl,rfl,rfl⟩
   intro w4 hR4 hg4 hs4;have hbw4:Below w.heap.size w w4:=hbw3.grown hg4 hbw3.size (by rintro j ⟨⟩;omega);go_wp2;exact bodyPost_ret (results_cell_row (g:=w.heap.size) rfl _ _ _ _ _ _ rfl hR4 Tryz.underlying24 rfl Ap) rfl ⟨by rw[←Hr.out],hbw4⟩
def Ba(w:World)(g n:Nat)(l:List Nm):Prop:=∃cur:List Value,Blk w g 24 cur.toArray∧cur.length=8*n∧cur.take (8*l.length)=l.flatMap nmc
section
variable {w w':World}{g n:Nat}{l:List Nm}
theorem Ba.lt(h:Ba w g n l):g<w.heap.size:=by obtain⟨cur,hB,_⟩:=h;exact hB.lt
theorem Ba.below{B':Nat}(h:Ba w g n l)(hb:Below B' w w')(hg:g<B'):Ba w' g n l:=by obtain⟨cur,hB,r⟩:=h;exact⟨cur,hB.below hb hg,r⟩
theorem Ba.kept{row:Option Nat}(h:Ba w g n l)(hb:w.grownBy w' row)(hg:some g≠row):Ba w' g n l:=by obtain⟨cur,hB,r⟩:=h;exact⟨cur,hB.kept hb hg,r⟩
theorem Ba.rd(h:Ba w g n l):Rd w w.heap.size (some ⟨g,0,none⟩) (l.flatMap nmc):=by
 obtain⟨cur,hB,_,ht⟩:=h;have:=Rd.of_blk hB 0 (8*l.length);rw[List.drop_zero]at this;simp only at this;rw[ht]at this;exact this
end
theorem Kt(cur:List Value)(n:Nat)(l:List Nm)(x:Nm)(hl:cur.length=8*n)(ht:cur.take (8*l.length)=l.flatMap nmc)(hn:l.length<n):(splice cur (l.length*8) (nmc x)).length=8*n∧(splice cur (l.length*8) (nmc x)).take (8*(l++[x]).length)=(l++[x]).flatMap nmc:=by
 have h8:(nmc x).length=8:=rfl;have e:l.length*8=8*l.length:=Nat.mul_comm _ _;refine⟨by rw[length_splice _ _ _ (by rw[h8];omega)];exact hl,?_⟩;unfold splice;rw[e,ht,Ad,←List.append_assoc,List.take_append_of_le_length (by
  rw[AI,AI,AX nmc 8 l (Cb l),h8];simp;omega),AT (by
  rw[AI,AI,AX nmc 8 l (Cb l),h8];simp;omega)]
 simp
theorem Ba.zero(w:World)(cs:Array Value)(n:Nat)(h:cs.size=8*n):Ba (w.alloc (.cells cs 24)) w.heap.size n []:=
 ⟨cs.toList,by simpa using Blk.new w 24 cs,by simpa using h,by simp⟩
theorem Gj(g:Nat)(t:TypeId):∀(vs:List Value) (o:Nat) (w:World) (cur:List Value),Blk w g t cur.toArray→o+vs.length≤cur.length→
  Blk (w.setCells g o vs) g t (splice cur o vs).toArray
 |[],o,w,cur,h,_=>by simpa[World.setCells,splice]using h
 |v::r,o,w,cur,h,hl=>by
  rw[World.setCells];have hl':o+(r.length+1)≤cur.length:=by simpa using hl
  have h1:=h.put o v;have e:cur.toArray.setIfInBounds o v=(cur.set o v).toArray:=by simp
  rw[e]at h1;have h2:=Gj g t r (o+1) (w.setCell ⟨g,o,none⟩ v) (cur.set o v) h1 (by simp;omega);have e2:splice (cur.set o v) (o+1) r=splice cur o (v::r):=by
   unfold splice;rw[List.take_set,List.drop_set,if_pos (by omega),Af,show o+(r.length+1)=o+1+r.length from by omega];rw[F6 cur o (by omega),List.set_append_right _ _ (by simp;omega)];simp[Nat.min_eq_left (show o≤cur.length by omega)]
  rw[←e2];exact h2
theorem JT{w:World}{g n:Nat}{l:List Nm}(x:Nm)(h:Ba w g n l)(hn:l.length<n):Ba (w.setCells g (l.length*8) (nmc x)) g n (l++[x]):=by
 obtain⟨cur,hB,hl,ht⟩:=h;obtain⟨h1,h2⟩:=Kt cur n l x hl ht hn;exact⟨_,Gj g _ (nmc x) _ w cur hB (by rw[show(nmc x).length=8 from rfl];omega),h1,h2⟩
theorem DC{P:Program}{ops:Array Oper}{rest:List Oper}{op:Oper}{a:Act}{w:World}{Q:Exit→Act→World→Prop}(hgd:op.guard=none)(ty:TypeId)(x y:Operand)(ho:op.op= .store ty x y)(g n k:Nat)(l:List Nm)(nm:Nm)(hx:a.eval x= .pointer (some ⟨g,k*8,none⟩))(hy:a.eval y=nm.val)(hB:Ba w g n l)(hk:l.length=k)(hn:k<n)(hi:(P.info? ty).map (·.size)=some 8)(h:∀w',Ba w' g n (l++[nm])→w.grownBy w' (some g)→w'.heap.size=w.heap.size→wpList P ops Q rest (a.put op.dst undef) w'):wpList P ops Q (op::rest) a w:=by
 subst hk;obtain⟨cur,hC,hl,ht⟩:=hB;have hth:w.there g (l.length*8) 8:=fun j hj=>⟨by
  rw[hC.cell,Array.getElem?_eq_getElem (by simp;omega)];rfl,hC.frozen _⟩
 refine wpList_store_mid hgd ty x y ho g (l.length*8) nm.cells hx hy hth hi (Array.all_eq_true_iff_forall_mem.2 fun v hv=>B3 (l:=nm.bytes) (by simpa[Nm.bytes]using hv)) ?_;obtain⟨_,h4,h5⟩:=Cc g 24 nm.cells.toList (l.length*8) w _ hC;exact h _ (JT nm ⟨cur,hC,hl,ht⟩ hn) h4 h5
theorem DQ:(Tryz.prog.info? 24).map (fun i=>(i.zero,i.size,i.bytes))=some (some (Nm.val ⟨0,0,0,0,0,0,0,0⟩),8,8):=by kernel_rfl
def KB(w:World)(n:Nat)(l:List Nm)(e:Ending)(w':World):Prop:=∃g,e= .returned (.slice (some ⟨g,0,none⟩) n n)∧Ba w' g n l∧Below w.heap.size w w'
theorem MB:(Tryz.prog.info? 3).map (fun i=>(i.zero,i.size,i.bytes))=some (some (.int .i64 0),1,8):=by kernel_rfl
theorem ixn(n:Nm)(k:Nat)(hk:k<n.bytes.length)(w:World):(Instr.index 24 n.val (.int .i64 (k:Int))).run Tryz.prog w= .ok (B n.bytes[k]) w:=by
 have h8:k<8:=hk;rcases(by omega:k=0∨k=1∨k=2∨k=3∨k=4∨k=5∨k=6∨k=7)with rfl|rfl|rfl|rfl|rfl|rfl|rfl|rfl
 ·exact ix0 _ _ _ _ _ _ _ _ w
 ·exact ix1 _ _ _ _ _ _ _ _ w
 ·exact ix2 _ _ _ _ _ _ _ _ w
 ·exact ix3 _ _ _ _ _ _ _ _ w
 ·exact ix4 _ _ _ _ _ _ _ _ w
 ·exact ix5 _ _ _ _ _ _ _ _ w
 ·exact ix6 _ _ _ _ _ _ _ _ w
 ·exact ix7 _ _ _ _ _ _ _ _ w
theorem Qx(b:UInt8):bits .and .u8 (b.toNat:Int) 15=((b.toNat%16:Nat):Int):=by
 have hb:=b.toNat_lt;show IntKind.u8.wrap ((BitVec.ofInt 8 (b.toNat:Int)&&& BitVec.ofInt 8 15).toNat:Int)=_;rw[BitVec.toNat_and,BitVec.ofInt_natCast,BitVec.toNat_ofNat,Nat.mod_eq_of_lt (by omega),show(BitVec.ofInt 8 15).toNat=2^4-1 from rfl,Nat.and_two_pow_sub_one_eq_mod,IntKind.wrap_u8];omega
theorem O7(n:Nat)(hn:n≤1000000):bits .and .i64 (n:Int) 15=((n%16:Nat):Int):=by
 show IntKind.i64.wrap ((BitVec.ofInt 64 (n:Int)&&& BitVec.ofInt 64 15).toNat:Int)=_;rw[BitVec.toNat_and,BitVec.ofInt_natCast,BitVec.toNat_ofNat,Nat.mod_eq_of_lt (by omega),show(BitVec.ofInt 64 15).toNat=2^4-1 from rfl,Nat.and_two_pow_sub_one_eq_mod,IntKind.wrap_i64];omega
theorem M8(m:Nm)(w:World):Calls Tryz.prog 256 #[m.val] w (CV w 3 1 18 ((FI m).map N)):=by
 have hmk:∀W:World,(Instr.makeSlice 114 (.int .i64 0) (.int .i64 18)).run Tryz.prog W= .ok (.slice (some ⟨W.heap.size,0,none⟩) 0 18) (W.alloc (.cells (Array.replicate 18 (.int .i64 0)) 3)):=fun W=>by kernel_rfl
 go_enter Tryz.func256,Tryz.ntmps256;go_wp2_with (refine wpList_load_row rfl 24 _ rfl w.heap.size rfl 24 m.cells (0,0) _ ((Blk.new w _ _).alloc _) Tryz.underlying24 rfl Ap ?_)
 clear hmk
 go_loopw [3,4,11] (fun v r i wr=>∃k:Nat,k≤8∧i= .int .i64 k∧r= .int .i64 ((240-Gd (m.bytes.take k):Nat):Int)∧wr.ownsRow w.heap.size 3 1 v (2*k) ((Gc (m.bytes.take k)).map N)∧Below w.heap.size w wr)
  (fun _ _ i _=>8-(intOf i).toNat)
 case atStart=>
  refine⟨0,by omega,rfl,rfl,?_,?_⟩
  ·have h:=World.ownsRow_made (base:=w.heap.size) (e:=3) (size:=1) (w.alloc (.cells m.cells 24)) (Array.replicate 18 (.int .i64 0)) 18 (by simp) (by unfold maxLen;omega) (by simp);simpa[Gc]using h
  ·exact((AC _ _).alloc (AB _) _).alloc (by simp) _
 case round=>
  obtain⟨k,hk,rfl,rfl,hown,hb⟩:=hrel;have hS:Gd (m.bytes.take k)≤30*(m.bytes.take k).length:=Kg _;have hl:(m.bytes.take k).length≤k:=List.length_take_le _ _;by_cases hlt:k<8
  ·have hk8:k<m.bytes.length:=hlt;have hix:=ixn m k hk8;simp only[Nm.val]at hix;have e1:=F6 m.bytes k hk8;have e2:=Ot (m.bytes.take k) m.bytes[k];have e3:=Oq (m.bytes.take k) m.bytes[k];rw[←e1]at e2 e3;have E2:=AA e2;have E3:=AA e3;clear e1 e2 e3;generalize m.bytes[k]=b at*;generalize m.bytes.take k=tk at*;have hb8:=b.toNat_lt;have h15:=Qx b;have h15':bits .and .u8 (b.toNat:Int) 15=(b.toNat:Int)%16:=by rw[h15];omega
   clear h15;obtain⟨S,hSe⟩:∃S,S=Gd tk:=⟨_,rfl⟩;rw[←hSe]at hS;rw[←hSe]at E2;rw[←hSe];clear hSe;go_wp2_with (at_builtin;refine Aq rfl (.tmp 20) (.tmp 23) _ rfl w.heap.size 3 (.int .i64 0) 1 8 Tryz.underlying114 MB rfl (by decide) _ (2*k) _ rfl (hown.alloc _) (wr.heap.size+1) _ 2 2 [N (b.toNat/16),N (b.toNat%16)] rfl rfl ?r1 ?r2 ?r3 ?r4 ?r5 ?_)
   case r1=>
    have h:=Rd.of_blk (Blk.new wr 3 #[N (b.toNat/16),N (b.toNat%16)]) 0 2;simpa[N]using h
   case r2=>intro u hu;simp at hu;rcases hu with rfl|rfl <;> rfl
   case r3=>omega
   case r4=>unfold maxLen;omega
   case r5=>have:=hb.size;simp;omega
   intro v2 w2 hown2 hg2 hat2;have hb2:Below w.heap.size w w2:=BL (hb.alloc hb.size _) (hown.alloc _) hg2;clear hat2 hg2 hown hix;go_wp2;go_roundw
   case rel=>
    refine⟨k+1,by omega,by go_num,?_,?_,hb2⟩
    ·rw[E2.out];go_num
    ·rw[E3.out,Ac];exact hown2
   case measure=>simp[intOf];omega
  ·obtain rfl:k=8:=by omega
   have hbb:m.bytes.take 8=m.bytes:=rfl;rw[hbb]at hown hS hl;rw[hbb];clear hbb;have e0:FI m=Gc m.bytes++[(240-Gd m.bytes)/16,(240-Gd m.bytes)%16]:=rfl;have E0:=AA e0;clear e0;generalize Gc m.bytes=dl at*;obtain⟨S,hSe⟩:∃S,S=240-Gd m.bytes:=⟨_,rfl⟩;rw[←hSe]at E0;rw[←hSe];have hS2:S≤240:=by omega
   have h15:bits .and .i64 (S:Int) 15=(S:Int)%16:=by rw[O7 S (by omega)];omega
   clear hS hl hSe;go_wp2_with (at_builtin;refine Aq rfl (.tmp 31) (.tmp 36) _ rfl w.heap.size 3 (.int .i64 0) 1 8 Tryz.underlying114 MB rfl (by decide) _ (2*8) _ rfl (hown.alloc _) (wr.heap.size+1) _ 2 2 [N (S/16),N (S%16)] rfl rfl ?q1 ?q2 ?q3 ?q4 ?q5 ?_)
   case q1=>
    have h:=Rd.of_blk (Blk.new wr 3 #[N (S/16),N (S%16)]) 0 2;simpa[N]using h
   case q2=>intro u hu;simp at hu;rcases hu with rfl|rfl <;> rfl
   case q3=>omega
   case q4=>unfold maxLen;omega
   case q5=>have:=hb.size;simp;omega
   intro v2 w2 hown2 hg2 hat2;have hb2:Below w.heap.size w w2:=BL (hb.alloc hb.size _) (hown.alloc _) hg2;clear hat2 hg2 hown;go_wp2;go_ret;obtain⟨A2,c2,rfl⟩:=Ar hown2;refine⟨A2,c2,rfl,?_,hb2⟩;rw[E0.out,Ac];exact hown2
theorem O8{α:Type}{l:List α}{k:Nat}(d:α)(h:k<l.length):l[k]? =some (l.getD k d):=by
 rw[List.getD_eq_getElem?_getD,AE h];rfl
end
section
open Go.RowKit
attribute [local go_sem ↓] Go.wp_at_zero Go.wp_at_succ
theorem Ed{u:Value}{l:List Nm}(h:u∈l.flatMap nmc):u.oneCell'=true:=by
 rw[nmb]at h;exact B3 h
theorem SL{w:World}{base e size n g o c:Nat}{xs:List Value}(h:w.ownsRow base e size (.slice (some ⟨g,o,none⟩) n c) n xs):∃cur,Blk w g e cur:=by
 rcases h.2 with⟨hv,_⟩|⟨g',cap,cur,hv,_,hh,_⟩
 ·cases hv
 ·injection hv with hv
  injection hv with hv
  injection hv with hv
  subst hv;exact⟨_,hh⟩
theorem Qy{w:World}{base e size n b:Nat}{v:Value}{xs:List Value}(h:w.ownsRow base e size v n xs)(hb:b<base):some b≠v.ownBlock:=fun e=>by
 have:=(h.lt _ e.symm).1;omega
end
section
open Go.RowKit
theorem FL(w:World):Calls Tryz.prog 78 #[.int .i64 2] w fun e w'=>e= .returned (.int .i64 1024)∧w'=w:=by
 go_enter Tryz.func78,Tryz.ntmps78;go_wp2;go_ret;exact⟨rfl,rfl⟩
def Al(w:World)(b:Bool)(e:Ending)(w':World):Prop:=e= .returned (.bool b)∧Below w.heap.size w w'
def KC(a b:Vt):Prop:=a.kind=b.kind∧a.parent=b.parent∧a.slot=b.slot∧a.round=b.round∧a.signer=b.signer
instance (a b:Vt):Decidable (KC a b):=by unfold KC;infer_instance
def IE(a b:Vt):Prop:=a≠b∧KC a b∧Ae a∧Ae b
instance (a b:Vt):Decidable (IE a b):=by unfold IE;infer_instance
def DJ(a b:Nm):Bool:=decide (Dd a.bytes<Dd b.bytes)
def Bg(a b:Vt):Bool:=
 if a.parent=b.parent then
  if a.slot=b.slot then
   if a.round=b.round then
    if a.kind=b.kind then
     if a.signer=b.signer then
      if a.choice=b.choice then
       if a.value=b.value then decide (a.support<b.support)else DJ a.value b.value
      else decide (a.choice<b.choice)
     else decide (a.signer<b.signer)
    else decide (a.kind<b.kind)
   else decide (a.round<b.round)
  else decide (a.slot<b.slot)
 else DJ a.parent b.parent
abbrev Bk:Vt:=⟨0,0,0,0,0,0,Nm.zero,Nm.zero⟩
def DZ(v:Vt):Nm:=De (64::Mu v)
theorem MC(v:Vt):(Mu v).length=23:=by simp[Mu,Nm.bytes]
theorem KD(v:Vt)(w:World)(hv:v.ok)(hy:Ae v):Calls Tryz.prog 113 #[v.val] w (BT w (DZ v)):=by
 have Hy:=AA hy;clear hy;obtain⟨r,hr⟩:∃r,r=DZ v:=⟨_,rfl⟩;have Hr:=AA hr;clear hr;go_enter Tryz.func113,Tryz.ntmps113;go_wp2_with (refine wpList_load_row rfl 46 _ rfl w.heap.size rfl 46 v.cells (0,0) _ ((Blk.new w _ _).alloc _) Tryz.underlying46 rfl Hc ?_)
 have hR:Blk ((w.alloc (Obj.cells v.cells 46)).alloc (Obj.cells BG 24)) (w.heap.size+1) 24 BG:=by
  have:=Blk.new (w.alloc (Obj.cells v.cells 46)) 24 BG;simpa using this
 have hbW:Below w.heap.size w ((w.alloc (Obj.cells v.cells 46)).alloc (Obj.cells BG 24)):=((AC _ _).alloc (AB _) _).alloc (by simp) _;generalize ((w.alloc (Obj.cells v.cells 46)).alloc (Obj.cells BG 24))=W at*;refine(QO v _ hv Hy.out).mono ?_;rintro e w1 ⟨A1,c1,rfl,hown,hb1⟩;have hR1:=hR.below hb1 hR.lt;have hbw1:=hbW.trans (hb1.mono hbW.size);have hcall:Calls Tryz.prog 50 #[.int .u8 64,.slice A1 23 c1] w1 (BT w1 r):=by
  have h:=B8 64 A1 c1 (Mu v) r w1 (Rd.of_own hown) (by rw[MC];omega) (by rw[Hr.out];rfl);rw[MC]at h;exact h
 have HC:=AA hcall;clear hcall hR hbW hb1 hown;go_wp2_with fail
 refine HC.out.mono ?_;rintro en w3 ⟨rfl,hb3⟩;have hR3:=hR1.below hb3 hR1.lt;have hbw3:=hbw1.trans (hb3.mono hbw1.size);clear hR1 hbw1 hb3 HC;go_wp2_with (refine AJ rfl 24 (.tmp 2) (.tmp 14) rfl (w.heap.size+1) _ rfl rfl 24 _ hR3 rfl Ap ?s2 ?_)
 case s2=>exact⟨rfl,rfl,rfl,rfl,rfl,rfl,rfl,rfl⟩
 intro w4 hR4 hg4 hs4;have hbw4:Below w.heap.size w w4:=hbw3.grown hg4 hbw3.size (by rintro j ⟨⟩;omega);go_wp2;exact bodyPost_ret (results_cell_row (g:=w.heap.size+1) rfl _ _ _ _ _ _ rfl hR4 Tryz.underlying24 rfl Ap) rfl ⟨by rw[←Hr.out],hbw4⟩
end
end Go.Proofs.YtadllffeoibelaaGreat
