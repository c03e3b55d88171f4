/-
  What these parts of the proof come to, functions walked and plain laws: Sum, Tag, Pair, Merk, Depth, Comp, Follow, OneP. No condition.
-/
import Derived.Test.YtadllffeoibelaaGreatS3
import Derived.RegionCalls
import Derived.Deep.RegionWith
import Derived.StillTailTactics
import Derived.Laws.ResultCell
namespace Go.Proofs.YtadllffeoibelaaGreat
set_option maxRecDepth 100000
set_option maxHeartbeats 32000000
section
open Go.RowKit
def JG(l:List UInt8):UInt64:=UInt64.ofNat (Et l)
theorem Qd(l:List UInt8):Et l<18446744073709551616:=by
 have:=KY (Oa l);rw[Le]at this;exact this
theorem Lt(l:List UInt8):(JG l).toNat=Et l:=by
 rw[JG,UInt64.toNat_ofNat'];exact Nat.mod_eq_of_lt (Qd l)
def stK(l:List UInt8):Nat→UInt64×UInt64
 |0=>(0x243f6a8885a308d3,0x13198a2e03707344)
 |k+1=>FB 2 ((stK l k).1^^^JG (l.drop (8*k)),(stK l k).2)
def fin(l:List UInt8):UInt64×UInt64:=
 let s:=stK l ((l.length+7)/8)
 FB 4 (s.1,s.2^^^UInt64.ofNat l.length)
def De(l:List UInt8):Nm:=ofN ((fin l).1^^^(fin l).2).toNat
theorem TF(A:Option Addr)(n c:Nat)(l:List UInt8)(w:World)(hl:l.length=n)(hr:Rd w w.heap.size A (l.map B))(hm:l.length≤9223372036854775807):Calls Tryz.prog 125 #[.slice A n c] w fun e w'=>e= .returned (U (JG l))∧Below w.heap.size w w':=by
 subst hl;exact(QP A c l w hr hm).mono fun e w' h=>⟨by rw[h.1,←Lt],h.2⟩
theorem US(x y:UInt64)(b:Nat)(w:World)(hb:Blk w b 193 #[U x,U y]):Calls Tryz.prog 126 #[.pointer (some ⟨b,0,none⟩),.int .i64 2] w fun e w'=>e= .returned (.tuple #[])∧Blk w' b 193 #[U (FB 2 (x,y)).1,U (FB 2 (x,y)).2]∧w.grownBy w' (some b)∧w'.heap.size=w.heap.size:=NY 2 x y b w (by omega) hb
theorem UT(x y:UInt64)(b:Nat)(w:World)(hb:Blk w b 193 #[U x,U y]):Calls Tryz.prog 126 #[.pointer (some ⟨b,0,none⟩),.int .i64 4] w fun e w'=>e= .returned (.tuple #[])∧Blk w' b 193 #[U (FB 4 (x,y)).1,U (FB 4 (x,y)).2]∧w.grownBy w' (some b)∧w'.heap.size=w.heap.size:=NY 4 x y b w (by omega) hb
theorem Ru(y:UInt64)(n:Nat)(h:n<18446744073709551616):bits .xor .u64 (y.toNat:Int) (n:Int)=((y^^^UInt64.ofNat n).toNat:Int):=by
 have e:(n:Int)=((UInt64.ofNat n).toNat:Int):=by rw[UInt64.toNat_ofNat',Nat.mod_eq_of_lt h]
 rw[e,NM]
theorem Rd.cut{w:World}{B':Nat}{A:Option Addr}{xs:List Value}(h:Rd w B' A xs)(k cap:Nat)(hc:xs.length≤cap):Rd w B' (if cap=k then A else A.map (·.add k)) (xs.drop k):=by
 by_cases hk:xs.length≤k
 ·exact .inl (List.drop_eq_nil_of_le hk)
 ·obtain⟨b,o,rfl,hb,hcell⟩:=h.cells (by rintro rfl;simp at hk);rw[if_neg (by omega)];refine .inr ⟨b,o+k,by simp[Addr.add_mid],hb,fun j u hu=>?_⟩;rw[List.getElem?_drop]at hu;rw[Nat.add_assoc];exact hcell _ u hu
theorem Rv(A:Option Addr)(c:Nat)(l:List UInt8)(w:World)(hr:Rd w w.heap.size A (l.map B))(hm:l.length≤c)(_hc:c≤maxLen)(hlen:l.length≤1000000000000):Calls Tryz.prog 85 #[.slice A l.length c] w (BT w (De l)):=by
 have HR:=AA hr;clear hr;unfold maxLen at _hc;go_enter Tryz.func85,Tryz.ntmps85;go_wp2
 go_loopw [4] (fun i wr=>∃k:Nat,8*k≤l.length+7∧i= .int .i64 ((8*k:Nat):Int)∧Blk wr (w.heap.size+1) 193 #[U (stK l k).1,U (stK l k).2]∧(∃z,Blk wr w.heap.size 24 z∧z.size=8)∧Below w.heap.size w wr)
  (fun i _=>l.length+8-(intOf i).toNat)
 case atStart=>
  refine⟨0,by omega,rfl,?_,⟨_,(Blk.new w _ _).alloc _,rfl⟩,((AC _ _).alloc (AB _) _).alloc (by simp) _⟩;have:=Blk.new (w.alloc (.cells #[.int .u8 0,.int .u8 0,.int .u8 0,.int .u8 0,.int .u8 0,.int .u8 0,.int .u8 0,.int .u8 0] 24)) 193 #[.int .u64 2611923443488327891,.int .u64 1376283091369227076];have e:(#[U (stK l 0).1,U (stK l 0).2]:Array Value)=#[.int .u64 2611923443488327891,.int .u64 1376283091369227076]:=rfl;rw[e];simpa using this
 case round=>
  obtain⟨k,hk,rfl,hB,⟨z,hZ,hz⟩,hbw⟩:=hrel;have Hz:=AA hz;clear hz;by_cases hlt:8*k<l.length
  ·have Hst:Hid (stK l (k+1)=FB 2 ((stK l k).1^^^JG (l.drop (8*k)),(stK l k).2)):=rfl;generalize hs:stK l k=s at*;obtain⟨x,y⟩:=s;have Hs:=AA hs;clear hs;obtain⟨b,o,rfl,hbo,hcell⟩:=HR.out.cells (by rintro h;simp at h;subst h;simp at hlt);have hrd:Rd wr wr.heap.size (some ⟨b,o+8*k,none⟩) ((l.drop (8*k)).map B):=by
    have h1:=((HR.out.below hbw).more hbw.size).cut (8*k) c (by simpa using hm);rw[if_neg (by omega)]at h1;simpa[Addr.add_mid,List.map_drop]using h1
   have Hrd:=AA hrd;clear hrd;have Hcell:=AA hcell;clear hcell;have hcne:¬c=8*k:=by omega
   have c0:wr.cell? ⟨w.heap.size+1,0,none⟩=some (U x):=hB.cell 0;have f0:=hB.frozen 0;go_wp2;have i1:(0:Int)≤8*(k:Int):=by omega
   have i2:8*(k:Int)≤(l.length:Int):=by omega
   have i3:(8*(k:Int)).toNat=8*k:=by omega
   have HW:Hid (Calls Tryz.prog 125 #[.slice (some ⟨b,o+8*k,none⟩) (l.length-8*k) (c-8*k)] wr.drew fun e w'=>e= .returned (U (JG (l.drop (8*k))))∧Below wr.heap.size wr w'∧w'.cell? ⟨w.heap.size+1,0,none⟩=some (U x)∧w'.frozen? ⟨w.heap.size+1,0,none⟩=false):=by
    refine(TF _ _ _ (l.drop (8*k)) _ (by simp) Hrd.out.drew (by simp;omega)).mono ?_;rintro e w' ⟨rfl,hb'⟩;exact⟨rfl,(AC _ _).drew.trans hb',(hb'.cell (p:=⟨w.heap.size+1,0,none⟩) hB.lt).trans c0,(hb'.frozen (p:=⟨w.heap.size+1,0,none⟩) hB.lt).trans f0⟩
   go_region_with ((go_at_call 125;refine HW.out.mono ?_;rintro e w' ⟨rfl,hb',c0',f0'⟩))
   all_goals
    simp only[NM];generalize hx2:x^^^JG (l.drop (8*k))=x2 at*;have Hx2:=AA hx2;clear hx2;have hB':=(hB.below hb' hB.lt).put 0 (U x2);have hZ':=(hZ.below hb' hZ.lt).far (p:=⟨w.heap.size+1,0,none⟩) (by simp) (U x2);have hbw':=(hbw.trans (hb'.mono hbw.size)).setCell (p:=⟨w.heap.size+1,0,none⟩) (by simp) (U x2);generalize w'.setCell ⟨w.heap.size+1,0,none⟩ (U x2)=w3 at*;clear hB hZ hbw hb' c0 c0' f0 f0' HW Hrd;go_wp2_with fail
    refine(US x2 y _ _ hB').mono ?_;rintro e w4 ⟨rfl,hB4,hg4,hs4⟩;have hZ4:=hZ'.kept hg4 (by simp);have hbw4:Below w.heap.size w w4:=hbw'.grown hg4 hbw'.size (by rintro j ⟨⟩;omega);clear hZ' hbw' hB' hg4;go_wp2_with fail
    go_roundw
    case rel=>
     refine⟨k+1,by omega,by go_num,?_,⟨z,hZ4,Hz.out⟩,hbw4⟩;rw[Hst.out];exact hB4
    case measure=>simp[intOf];omega
  ·obtain rfl:k=(l.length+7)/8:=by omega
   have hfin:fin l=FB 4 ((stK l ((l.length+7)/8)).1,(stK l ((l.length+7)/8)).2^^^UInt64.ofNat l.length):=rfl;have Hfin:=AA hfin;clear hfin;generalize hs:stK l ((l.length+7)/8)=s at*;obtain⟨x,y⟩:=s;have Hs:=AA hs;clear hs;have c1:wr.cell? ⟨w.heap.size+1,1,none⟩=some (U y):=hB.cell 1;have f1:=hB.frozen 1;have hl0:(0:Int)≤(l.length:Int):=by omega
   go_wp2_with fail
   simp only[Ru y l.length (by omega)];generalize hy2:y^^^UInt64.ofNat l.length=y2 at*;have Hy2:=AA hy2;clear hy2;have hB':=hB.put 1 (U y2);have hZ':=hZ.far (p:=⟨w.heap.size+1,1,none⟩) (by simp) (U y2);have hbw':=hbw.setCell (p:=⟨w.heap.size+1,1,none⟩) (by simp) (U y2);generalize wr.setCell ⟨w.heap.size+1,1,none⟩ (U y2)=w3 at*;clear hB hZ hbw c1 f1;refine(UT x y2 _ _ hB').mono ?_;rintro e w4 ⟨rfl,hB4,hg4,hs4⟩;have hZ4:=hZ'.kept hg4 (by simp);have hbw4:Below w.heap.size w w4:=hbw'.grown hg4 hbw'.size (by rintro j ⟨⟩;omega);clear hZ' hbw' hB' hg4;generalize hf:FB 4 (x,y2)=f at*;obtain⟨fx,fy⟩:=f;have Hf:=AA hf;clear hf;have c0:w4.cell? ⟨w.heap.size+1,0,none⟩=some (U fx):=hB4.cell 0;have c1:w4.cell? ⟨w.heap.size+1,1,none⟩=some (U fy):=hB4.cell 1;go_wp2_with fail
   simp only[NM];generalize hq:fx^^^fy=q at*;have Hq:=AA hq;clear hq;refine(S6 q.toNat _).mono ?_;generalize hr:ofN q.toNat=r;have Hr:=AA hr;clear hr;rintro e w5 ⟨rfl,hb5⟩;have hZ5:=hZ4.below hb5 hZ4.lt;have hbw5:=hbw4.trans (hb5.mono hbw4.size);clear hZ4 hbw4 hb5 hB4 c0 c1;go_wp2_with (refine AJ rfl 24 (.tmp 2) (.tmp 34) rfl w.heap.size _ rfl rfl 24 z hZ5 ?s1 Ap ?s2 ?_)
   case s1=>rw[Hz.out];rfl
   case s2=>exact⟨rfl,rfl,rfl,rfl,rfl,rfl,rfl,rfl⟩
   intro w6 hZ6 hg6 hs6;have hbw6:Below w.heap.size w w6:=hbw5.grown hg6 hbw5.size (by rintro j ⟨⟩;omega);go_wp2;refine bodyPost_ret (results_cell_row (g:=w.heap.size) rfl _ _ _ _ _ _ rfl hZ6 Tryz.underlying24 rfl Ap) rfl ⟨?_,hbw6⟩;have e:De l=r:=by rw[De,Hfin.out,←Hr.out,←Hq.out]
   rw[e]
def Gb:Array Value:=madeCells #[.int .u8 0] 160
theorem Rw:Gb.size=160:=size_madeCells _ _
theorem T7(W:World):(Instr.makeSlice 60 (.int .i64 0) (.int .i64 160)).run Tryz.prog W= .ok (.slice (some ⟨W.heap.size,0,none⟩) 0 160) (W.alloc (.cells Gb 5)):=by
 obtain⟨i0,hi,hz0,hz1,hz2⟩:=info_parts Bt;have:=run_make (P:=Tryz.prog) W 60 5 i0 (.int .u8 0) Tryz.underlying60 hi hz0 .i64 .i64 0 160 (by omega) (by omega) (by rw[hz2];omega) (by omega);rw[this,hz1];rfl
theorem Rx{w:World}{base e size n:Nat}{v:Value}{xs:List Value}(h:w.ownsRow base e size v n xs)(hn:0<n):∃A c,v= .slice A n c∧n≤c∧c≤maxLen:=by
 rcases h.2 with⟨rfl,rfl⟩|⟨g,cap,cur,rfl,_,_,h1,h2,_⟩
 ·omega
 ·exact⟨_,_,rfl,h1,h2⟩
theorem B8(t:UInt8)(A:Option Addr)(c:Nat)(l:List UInt8)(r:Nm)(w:World)(hr:Rd w w.heap.size A (l.map B))(hlen:l.length≤1000000000)(hsum:De (t::l)=r):Calls Tryz.prog 50 #[B t,.slice A l.length c] w (BT w r):=by
 have HS:=AA hsum;clear hsum;have HR:=AA hr;clear hr;have hmk:=T7;obtain⟨xs,hxs⟩:∃xs,xs=l.map B:=⟨_,rfl⟩;have Hx:=AA hxs;clear hxs;go_enter Tryz.func50,Tryz.ntmps50;go_wp2_with (at_builtin;refine Aq rfl (.tmp 7) (.tmp 9) _ rfl w.heap.size 5 (.int .u8 0) 1 1 Tryz.underlying60 Bt rfl (by decide) (.slice (some ⟨w.heap.size+1,0,none⟩) 0 160) 0 [] rfl ?r0 (w.heap.size+3) _ 1 1 [B t] rfl rfl ?r1 ?r2 ?r3 ?r4 ?r5 ?_)
 case r0=>
  have h:=World.ownsRow_made (base:=w.heap.size) (e:=5) (size:=1) (w.alloc (.cells #[.int .u8 0,.int .u8 0,.int .u8 0,.int .u8 0,.int .u8 0,.int .u8 0,.int .u8 0,.int .u8 0] 24)) Gb 160 (by simp) (by unfold maxLen;omega) (by rw[Rw]);have h2:=h.alloc (.cells #[B t] 5);simpa using h2
 case r1=>
  have h:=Rd.one ((w.alloc (.cells #[.int .u8 0,.int .u8 0,.int .u8 0,.int .u8 0,.int .u8 0,.int .u8 0,.int .u8 0,.int .u8 0] 24)).alloc (.cells Gb 5)) (B t) 5;simpa using h
 case r2=>exact fun u hu=>GZ hu rfl
 case r3=>omega
 case r4=>unfold maxLen;omega
 case r5=>simp;omega
 intro v1 w1 hown1 hg1 hat1;have hZ1:Blk w1 w.heap.size 24 #[.int .u8 0,.int .u8 0,.int .u8 0,.int .u8 0,.int .u8 0,.int .u8 0,.int .u8 0,.int .u8 0]:=(((Blk.new w _ _).alloc _).alloc _).kept hg1 (by simp[Value.ownBlock]);have hb1:Below w.heap.size w w1:=((((AC _ _).alloc (AB _) _).alloc (by simp) _).alloc (by simp;omega) _).grown hg1 (by simp;omega) (by rintro j hj;simp[Value.ownBlock]at hj;omega);clear hg1 hat1 hmk;go_wp2_with (at_builtin;refine Aq rfl (.tmp 10) (.tmp 11) _ rfl w.heap.size 5 (.int .u8 0) 1 1 Tryz.underlying60 Bt rfl (by decide) _ 1 [B t] rfl ?q0 w.heap.size A l.length c xs rfl ?q1 ?q2 ?q3 ?q4 ?q5 ?q6 ?_)
 case q0=>exact hown1
 case q1=>rw[Hx.out];simp
 case q2=>rw[Hx.out];exact HR.out.below hb1
 case q3=>rw[Hx.out];exact fun u hu=>B3 hu
 case q4=>omega
 case q5=>unfold maxLen;omega
 case q6=>exact hb1.size
 intro v2 w2 hown2 hg2 hat2;have hZ2:=hZ1.kept hg2 (CC hown1 hZ1 (by decide));have hb2:=BL hb1 hown1 hg2;clear hg2 hat2 hZ1 hb1 hown1;have e:[B t]++xs=(t::l).map B:=by rw[Hx.out];simp
 have hown3:w2.ownsRow w.heap.size 5 1 v2 (t::l).length ((t::l).map B):=by
  rw[←e,Af,Nat.add_comm];exact hown2
 clear e hown2;rcases Rx hown3 (by simp)with⟨A2,c2,rfl,hc2,hm2⟩
 go_wp2_with fail
 have hcall:Calls Tryz.prog 85 #[.slice A2 (l.length+1) c2] w2 (BT w2 r):=by
  rw[←HS.out];exact Rv A2 c2 (t::l) w2 (Rd.of_own hown3) hc2 hm2 (by simp;omega)
 refine hcall.mono ?_;clear hcall;rintro en w5 ⟨rfl,hb5⟩;have hZ5:=hZ2.below hb5 hZ2.lt;have hbw5:=hb2.trans (hb5.mono hb2.size);clear hZ2 hb2 hb5 hown3;go_wp2_with (refine AJ rfl 24 (.tmp 4) (.tmp 13) rfl w.heap.size _ rfl rfl 24 _ hZ5 rfl Ap ?s2 ?_)
 case s2=>exact⟨rfl,rfl,rfl,rfl,rfl,rfl,rfl,rfl⟩
 intro w6 hZ6 hg6 hs6;have hbw6:Below w.heap.size w w6:=hbw5.grown hg6 hbw5.size (by rintro j ⟨⟩;omega);go_wp2;exact bodyPost_ret (results_cell_row (g:=w.heap.size) rfl _ _ _ _ _ _ rfl hZ6 Tryz.underlying24 rfl Ap) rfl ⟨rfl,hbw6⟩
def T8(t:UInt8)(x y:Nm):Nm:=De (t::(x.bytes++y.bytes))
abbrev Nm.cells(n:Nm):Array Value:=#[B n.b0,B n.b1,B n.b2,B n.b3,B n.b4,B n.b5,B n.b6,B n.b7]
theorem Oo(t:UInt8)(x y r:Nm)(w:World)(hsum:De (t::(x.bytes++y.bytes))=r):Calls Tryz.prog 138 #[B t,x.val,y.val] w (BT w r):=by
 have HS:=AA hsum;clear hsum;go_enter Tryz.func138,Tryz.ntmps138;go_wp2;have hX:Blk ((((w.alloc (Obj.cells x.cells 24)).alloc (Obj.cells y.cells 24)).alloc (Obj.cells #[.int .u8 0,.int .u8 0,.int .u8 0,.int .u8 0,.int .u8 0,.int .u8 0,.int .u8 0,.int .u8 0] 24)).alloc (Obj.cells #[.int .u8 0,.int .u8 0,.int .u8 0,.int .u8 0,.int .u8 0,.int .u8 0,.int .u8 0,.int .u8 0,.int .u8 0,.int .u8 0,.int .u8 0,.int .u8 0,.int .u8 0,.int .u8 0,.int .u8 0,.int .u8 0] 245)) w.heap.size 24 x.cells:=(((Blk.new w _ _).alloc _).alloc _).alloc _;have hY:Blk ((((w.alloc (Obj.cells x.cells 24)).alloc (Obj.cells y.cells 24)).alloc (Obj.cells #[.int .u8 0,.int .u8 0,.int .u8 0,.int .u8 0,.int .u8 0,.int .u8 0,.int .u8 0,.int .u8 0] 24)).alloc (Obj.cells #[.int .u8 0,.int .u8 0,.int .u8 0,.int .u8 0,.int .u8 0,.int .u8 0,.int .u8 0,.int .u8 0,.int .u8 0,.int .u8 0,.int .u8 0,.int .u8 0,.int .u8 0,.int .u8 0,.int .u8 0,.int .u8 0] 245)) (w.heap.size+1) 24 y.cells:=by
  have:=((Blk.new (w.alloc (Obj.cells x.cells 24)) 24 y.cells).alloc (Obj.cells #[.int .u8 0,.int .u8 0,.int .u8 0,.int .u8 0,.int .u8 0,.int .u8 0,.int .u8 0,.int .u8 0] 24)).alloc (Obj.cells #[.int .u8 0,.int .u8 0,.int .u8 0,.int .u8 0,.int .u8 0,.int .u8 0,.int .u8 0,.int .u8 0,.int .u8 0,.int .u8 0,.int .u8 0,.int .u8 0,.int .u8 0,.int .u8 0,.int .u8 0,.int .u8 0] 245);simpa using this
 have hR:Blk ((((w.alloc (Obj.cells x.cells 24)).alloc (Obj.cells y.cells 24)).alloc (Obj.cells #[.int .u8 0,.int .u8 0,.int .u8 0,.int .u8 0,.int .u8 0,.int .u8 0,.int .u8 0,.int .u8 0] 24)).alloc (Obj.cells #[.int .u8 0,.int .u8 0,.int .u8 0,.int .u8 0,.int .u8 0,.int .u8 0,.int .u8 0,.int .u8 0,.int .u8 0,.int .u8 0,.int .u8 0,.int .u8 0,.int .u8 0,.int .u8 0,.int .u8 0,.int .u8 0] 245)) (w.heap.size+1+1) 24 #[.int .u8 0,.int .u8 0,.int .u8 0,.int .u8 0,.int .u8 0,.int .u8 0,.int .u8 0,.int .u8 0]:=by
  have:=((Blk.new ((w.alloc (Obj.cells x.cells 24)).alloc (Obj.cells y.cells 24)) 24 #[.int .u8 0,.int .u8 0,.int .u8 0,.int .u8 0,.int .u8 0,.int .u8 0,.int .u8 0,.int .u8 0])).alloc (Obj.cells #[.int .u8 0,.int .u8 0,.int .u8 0,.int .u8 0,.int .u8 0,.int .u8 0,.int .u8 0,.int .u8 0,.int .u8 0,.int .u8 0,.int .u8 0,.int .u8 0,.int .u8 0,.int .u8 0,.int .u8 0,.int .u8 0] 245);simpa using this
 have hD:Blk ((((w.alloc (Obj.cells x.cells 24)).alloc (Obj.cells y.cells 24)).alloc (Obj.cells #[.int .u8 0,.int .u8 0,.int .u8 0,.int .u8 0,.int .u8 0,.int .u8 0,.int .u8 0,.int .u8 0] 24)).alloc (Obj.cells #[.int .u8 0,.int .u8 0,.int .u8 0,.int .u8 0,.int .u8 0,.int .u8 0,.int .u8 0,.int .u8 0,.int .u8 0,.int .u8 0,.int .u8 0,.int .u8 0,.int .u8 0,.int .u8 0,.int .u8 0,.int .u8 0] 245)) (w.heap.size+1+1+1) 245 [Value.int .u8 0,Value.int .u8 0,Value.int .u8 0,Value.int .u8 0,Value.int .u8 0,Value.int .u8 0,Value.int .u8 0,Value.int .u8 0,Value.int .u8 0,Value.int .u8 0,Value.int .u8 0,Value.int .u8 0,Value.int .u8 0,Value.int .u8 0,Value.int .u8 0,Value.int .u8 0].toArray:=by
  have:=(Blk.new (((w.alloc (Obj.cells x.cells 24)).alloc (Obj.cells y.cells 24)).alloc (Obj.cells #[.int .u8 0,.int .u8 0,.int .u8 0,.int .u8 0,.int .u8 0,.int .u8 0,.int .u8 0,.int .u8 0] 24)) 245 #[.int .u8 0,.int .u8 0,.int .u8 0,.int .u8 0,.int .u8 0,.int .u8 0,.int .u8 0,.int .u8 0,.int .u8 0,.int .u8 0,.int .u8 0,.int .u8 0,.int .u8 0,.int .u8 0,.int .u8 0,.int .u8 0]);simpa using this
 have hbW:Below w.heap.size w ((((w.alloc (Obj.cells x.cells 24)).alloc (Obj.cells y.cells 24)).alloc (Obj.cells #[.int .u8 0,.int .u8 0,.int .u8 0,.int .u8 0,.int .u8 0,.int .u8 0,.int .u8 0,.int .u8 0] 24)).alloc (Obj.cells #[.int .u8 0,.int .u8 0,.int .u8 0,.int .u8 0,.int .u8 0,.int .u8 0,.int .u8 0,.int .u8 0,.int .u8 0,.int .u8 0,.int .u8 0,.int .u8 0,.int .u8 0,.int .u8 0,.int .u8 0,.int .u8 0] 245)):=((((AC _ _).alloc (AB _) _).alloc (by simp) _).alloc (by simp;omega) _).alloc (by simp;omega) _;generalize ((((w.alloc (Obj.cells x.cells 24)).alloc (Obj.cells y.cells 24)).alloc (Obj.cells #[.int .u8 0,.int .u8 0,.int .u8 0,.int .u8 0,.int .u8 0,.int .u8 0,.int .u8 0,.int .u8 0] 24)).alloc (Obj.cells #[.int .u8 0,.int .u8 0,.int .u8 0,.int .u8 0,.int .u8 0,.int .u8 0,.int .u8 0,.int .u8 0,.int .u8 0,.int .u8 0,.int .u8 0,.int .u8 0,.int .u8 0,.int .u8 0,.int .u8 0,.int .u8 0] 245))=W at*;refine wp_region_still_tail 2 (by kernel_rfl) (by kernel_rfl) ?_;simp only[List.take_succ_cons,List.take_zero,List.drop_succ_cons,List.drop_zero]
 iterate 2 still_step
 refine wpStill_nil ?_;change wpList _ _ _ _ _ W.drew;replace hX:=hX.drew;replace hY:=hY.drew;replace hR:=hR.drew;replace hD:=hD.drew;replace hbW:=hbW.drew;generalize W.drew=W1 at*;refine wpList_copy_splice rfl (.tmp 8) (.tmp 9) _ _ rfl 5 Tryz.underlying60 (by kernel_rfl) _ _ _ _ _ _ rfl rfl (w.heap.size+1+1+1) 0 [Value.int .u8 0,Value.int .u8 0,Value.int .u8 0,Value.int .u8 0,Value.int .u8 0,Value.int .u8 0,Value.int .u8 0,Value.int .u8 0,Value.int .u8 0,Value.int .u8 0,Value.int .u8 0,Value.int .u8 0,Value.int .u8 0,Value.int .u8 0,Value.int .u8 0,Value.int .u8 0] 245 hD (x.bytes.map B) rfl ?h3 (by simp[Nm.bytes]) (fun u hu=>B3 hu) (w.heap.size+1+1+1) W1 (AC _ _) (AB _) ?_
 case h3=>
  intro _;refine⟨rfl,_,rfl,fun j v hv=>?_⟩;rw[Addr.add_mid,hX.cell,Nat.zero_add];simpa[Nm.bytes]using hv
 intro w2 hg2 hb2;have hY2:=hY.below hb2 (by omega);have hR2:=hR.below hb2 (by omega);have hbw2:=hbW.trans (hb2.mono (by omega));have hD2:Blk w2 (w.heap.size+1+1+1) 245 (x.bytes.map B++[Value.int .u8 0,Value.int .u8 0,Value.int .u8 0,Value.int .u8 0,Value.int .u8 0,Value.int .u8 0,Value.int .u8 0,Value.int .u8 0,Value.int .u8 0,Value.int .u8 0,Value.int .u8 0,Value.int .u8 0,Value.int .u8 0,Value.int .u8 0,Value.int .u8 0,Value.int .u8 0].drop 8).toArray:=hg2.out;clear hX hY hR hD hbW hb2 hg2;go_frame;go_wp2;refine wp_region_still_tail 2 (by kernel_rfl) (by kernel_rfl) ?_;simp only[List.take_succ_cons,List.take_zero,List.drop_succ_cons,List.drop_zero]
 iterate 2 still_step
 refine wpStill_nil ?_;change wpList _ _ _ _ _ w2.drew;replace hY2:=hY2.drew;replace hR2:=hR2.drew;replace hD2:=hD2.drew;replace hbw2:=hbw2.drew;generalize w2.drew=w3 at*;refine wpList_copy_splice rfl (.tmp 11) (.tmp 12) _ _ rfl 5 Tryz.underlying60 (by kernel_rfl) _ _ _ _ _ _ rfl rfl (w.heap.size+1+1+1) 8 _ 245 hD2 (y.bytes.map B) rfl ?h4 (by simp[Nm.bytes]) (fun u hu=>B3 hu) (w.heap.size+1+1+1) w3 (AC _ _) (AB _) ?_
 case h4=>
  intro _;refine⟨rfl,_,rfl,fun j v hv=>?_⟩;rw[Addr.add_mid,hY2.cell,Nat.zero_add];simpa[Nm.bytes]using hv
 intro w4 hg4 hb4;have hR4:=hR2.below hb4 (by omega);have hbw4:=hbw2.trans (hb4.mono (by omega));have hD4:Blk w4 (w.heap.size+1+1+1) 245 ((x.bytes++y.bytes).map B).toArray:=by
  have h:=hg4.out;unfold Blk;simpa[splice,Nm.bytes]using h
 have hlt:=hD4.lt;clear hY2 hR2 hD2 hbw2 hb4 hg4;go_frame;go_wp2_with fail
 have hrd:Rd w4 w4.heap.size (some ⟨w.heap.size+1+1+1,0,none⟩) ((x.bytes++y.bytes).map B):=by
  have h:=Rd.of_blk hD4 0 16;simpa[Nm.bytes]using h
 have hcall:Calls Tryz.prog 50 #[B t,.slice (some ⟨w.heap.size+1+1+1,0,none⟩) 16 16] w4 (BT w4 r):=B8 t _ 16 (x.bytes++y.bytes) r w4 hrd (by simp[Nm.bytes]) HS.out;refine hcall.mono ?_;clear hcall hrd hD4;rintro en w5 ⟨rfl,hb5⟩;have hZ5:=hR4.below hb5 hR4.lt;have hbw5:=hbw4.trans (hb5.mono hbw4.size);clear hR4 hbw4 hb5;go_wp2_with (refine AJ rfl 24 (.tmp 6) (.tmp 16) rfl (w.heap.size+1+1) _ rfl rfl 24 _ hZ5 rfl Ap ?s2 ?_)
 case s2=>exact⟨rfl,rfl,rfl,rfl,rfl,rfl,rfl,rfl⟩
 intro w6 hZ6 hg6 hs6;have hbw6:Below w.heap.size w w6:=hbw5.grown hg6 hbw5.size (by rintro j ⟨⟩;omega);go_wp2;exact bodyPost_ret (results_cell_row (g:=w.heap.size+1+1) rfl _ _ _ _ _ _ rfl hZ6 Tryz.underlying24 rfl Ap) rfl ⟨rfl,hbw6⟩
theorem T9{a b:Int}(h:a=b):Ending.returned (.int .i64 a)= .returned (.int .i64 b):=by rw[h]
theorem Dn(d n:Nat)(w:World)(hn:n=2^(d+1))(hd:d≤40):Calls Tryz.prog 137 #[.int .i64 (n:Int)] w fun e w'=>e= .returned (.int .i64 ((2^d:Nat):Int))∧w'=w:=by
 have hb:n≤2^41:=by rw[hn];exact Nat.pow_le_pow_right (by omega) (by omega)
 have hb':n≤2199023255552:=hb;have HN:=AA hn;clear hn hb;go_enter Tryz.func137,Tryz.ntmps137;go_wp2
 go_loop [3] (fun v=>∃e:Nat,e≤d∧v= .int .i64 ((2^e:Nat):Int)) (fun v=>n-(intOf v).toNat)
 case atStart=>exact⟨0,by omega,rfl⟩
 case round=>
  obtain⟨e,he,rfl⟩:=hrel;obtain⟨q,hq⟩:∃q,q=2^e:=⟨_,rfl⟩;have hpos:1≤q:=by rw[hq];exact Nat.one_le_two_pow
  rw[←hq];by_cases hlt:e<d
  ·have h1:2*(2*q)≤n:=by
    rw[HN.out,hq];have h2:2^(e+1+1)≤2^(d+1):=Nat.pow_le_pow_right (by omega) (by omega);have e1:2^(e+1+1)=2*(2*2^e):=by rw[Nat.pow_succ,Nat.pow_succ];omega
    omega
   have HQ:=AA hq;clear hq;go_wp2
   go_round
   case rel=>exact⟨e+1,by omega,by rw[Nat.pow_succ,←HQ.out];go_num⟩
   case measure=>simp[intOf];omega
  ·obtain rfl:e=d:=by omega
   have h1:n=2*q:=by rw[HN.out,hq,Nat.pow_succ];omega
   have h2:n≤2*q:=by omega
   have h3:2*q≤n:=by omega
   have hd:decide ((q:Int)<(n:Int)-(q:Int))=false:=by simp;omega
   have HQ:=AA hq;clear hq h1;go_wp2;go_ret;exact⟨T9 (congrArg (fun z:Nat=>(z:Int)) HQ.out),rfl⟩
def UA(n:Nm):Nm:=De (17::n.bytes)
theorem Lu(n r:Nm)(w:World)(hsum:De (17::n.bytes)=r):Calls Tryz.prog 136 #[n.val] w (BT w r):=by
 have HS:=AA hsum;clear hsum;go_enter Tryz.func136,Tryz.ntmps136;go_wp2_with fail
 have hX:Blk ((w.alloc (Obj.cells n.cells 24)).alloc (Obj.cells #[.int .u8 0,.int .u8 0,.int .u8 0,.int .u8 0,.int .u8 0,.int .u8 0,.int .u8 0,.int .u8 0] 24)) w.heap.size 24 n.cells:=(Blk.new w _ _).alloc _;have hR:Blk ((w.alloc (Obj.cells n.cells 24)).alloc (Obj.cells #[.int .u8 0,.int .u8 0,.int .u8 0,.int .u8 0,.int .u8 0,.int .u8 0,.int .u8 0,.int .u8 0] 24)) (w.heap.size+1) 24 #[.int .u8 0,.int .u8 0,.int .u8 0,.int .u8 0,.int .u8 0,.int .u8 0,.int .u8 0,.int .u8 0]:=by
  have:=Blk.new (w.alloc (Obj.cells n.cells 24)) 24 #[.int .u8 0,.int .u8 0,.int .u8 0,.int .u8 0,.int .u8 0,.int .u8 0,.int .u8 0,.int .u8 0];simpa using this
 have hbW:Below w.heap.size w ((w.alloc (Obj.cells n.cells 24)).alloc (Obj.cells #[.int .u8 0,.int .u8 0,.int .u8 0,.int .u8 0,.int .u8 0,.int .u8 0,.int .u8 0,.int .u8 0] 24)):=((AC _ _).alloc (AB _) _).alloc (by simp) _;generalize ((w.alloc (Obj.cells n.cells 24)).alloc (Obj.cells #[.int .u8 0,.int .u8 0,.int .u8 0,.int .u8 0,.int .u8 0,.int .u8 0,.int .u8 0,.int .u8 0] 24))=W at*;have hrd:Rd W W.heap.size (some ⟨w.heap.size,0,none⟩) (n.bytes.map B):=by
  have h:=Rd.of_blk hX 0 8;simpa[Nm.bytes]using h
 have hcall:Calls Tryz.prog 50 #[.int .u8 17,.slice (some ⟨w.heap.size,0,none⟩) 8 8] W (BT W r):=B8 17 _ 8 n.bytes r W hrd (by simp[Nm.bytes]) HS.out;refine hcall.mono ?_;clear hcall hrd hX;rintro en w5 ⟨rfl,hb5⟩;have hZ5:=hR.below hb5 hR.lt;have hbw5:=hbW.trans (hb5.mono hbW.size);clear hR hbW hb5;go_wp2_with (refine AJ rfl 24 (.tmp 2) (.tmp 4) rfl (w.heap.size+1) _ rfl rfl 24 _ hZ5 rfl Ap ?s2 ?_)
 case s2=>exact⟨rfl,rfl,rfl,rfl,rfl,rfl,rfl,rfl⟩
 intro w6 hZ6 hg6 hs6;have hbw6:Below w.heap.size w w6:=hbw5.grown hg6 hbw5.size (by rintro j ⟨⟩;omega);go_wp2;exact bodyPost_ret (results_cell_row (g:=w.heap.size+1) rfl _ _ _ _ _ _ rfl hZ6 Tryz.underlying24 rfl Ap) rfl ⟨rfl,hbw6⟩
theorem Ry(i:Nat)(w:World)(hi:i<32):Calls Tryz.prog 254 #[.int .i64 (i:Int),.int .i64 32] w fun e w'=>e= .returned (.int .i64 5)∧w'=w:=by
 go_enter Tryz.func254,Tryz.ntmps254;go_wp2
 go_loop [0,1,5,6] (fun vi vn vd _=>∃e j n:Nat,e≤5∧Hid (n=2^e)∧j<n∧n≤32∧vi= .int .i64 (j:Int)∧vn= .int .i64 (n:Int)∧vd= .int .i64 ((5-e:Nat):Int)) (fun _ vn _ _=>(intOf vn).toNat)
 case atStart=>exact⟨5,i,32,by omega,rfl,by omega,by omega,rfl,rfl,rfl⟩
 case round=>
  obtain⟨e,j,n,he,Hn,hj,hn32,rfl,rfl,rfl⟩:=hrel;cases e with
  |zero=>
   obtain rfl:n=1:=Hn.out;go_wp2;go_ret;exact⟨rfl,rfl⟩
  |succ e=>
   obtain⟨k,hk⟩:∃k,k=2^e:=⟨_,rfl⟩;have h2:n=2*k:=by rw[Hn.out,hk,Nat.pow_succ];omega
   have hk1:1≤k:=by rw[hk];exact Nat.one_le_two_pow
   have hcall:Calls Tryz.prog 137 #[.int .i64 (n:Int)] w fun en w'=>en= .returned (.int .i64 (k:Int))∧w'=w:=by
    rw[hk];exact Dn e n w Hn.out (by omega)
   have HC:=AA hcall;clear hcall;have HK:=AA hk;clear hk;have h3:n≤2*k:=by omega
   have h4:2*k≤n:=by omega
   clear h2;by_cases hjk:j<k
   ·go_wp2_with ((go_at_call 137;refine HC.out.mono ?_;rintro en w' ⟨rfl,rfl⟩))
    go_round
    case rel=>exact⟨e,j,k,by omega,HK,hjk,by omega,rfl,rfl,by rw[Value.int.injEq];exact⟨rfl,by omega⟩⟩
    case measure=>simp[intOf];omega
   ·go_wp2_with ((go_at_call 137;refine HC.out.mono ?_;rintro en w' ⟨rfl,rfl⟩))
    go_round
    case rel=>exact⟨e,j-k,k,by omega,HK,by omega,by omega,by go_num,by go_num,by rw[Value.int.injEq];exact⟨rfl,by omega⟩⟩
    case measure=>simp[intOf];omega
abbrev nmc(n:Nm):List Value:=[B n.b0,B n.b1,B n.b2,B n.b3,B n.b4,B n.b5,B n.b6,B n.b7]
theorem Cb(l:List Nm):∀n∈l,(nmc n).length=8:=fun _ _=>rfl
theorem Ab{P:Program}{fn:Func}{p u:Tmp}{ty:TypeId}(h:fn.results=#[.cell p ty,.tmp u])(tmps:Array Value)(w:World)(g:Nat)(t:TypeId)(cs:Array Value)(fr:Nat×Nat)(d:TypeDesc)(hp:tmps.getD p undef= .pointer (some ⟨g,0,none⟩))(hg:w.heap[g]? =some (.cells cs t fr))(hu:P.underlying ty=some d)(hd:(match d with |.struct _|.array _ _=>true|_=>false)=true)(hi:(P.info? ty).map (·.size)=some cs.size):(results fn tmps).run P w= .ok (.tuple #[.agg cs,tmps.getD u undef]) w:=by
 rw[results_cell_tmp h,hp];simp[asAddr,Sem.run_pure,Result.andThen,run_loadVar_row w g t ty cs fr d hg hu hd hi]
def Gc(l:List UInt8):List Nat:=l.flatMap fun b=>[b.toNat/16,b.toNat%16]
def Gd(l:List UInt8):Nat:=(l.map fun b=>b.toNat/16+b.toNat%16).sum
def FI(m:Nm):List Nat:=Gc m.bytes++[(240-Gd m.bytes)/16,(240-Gd m.bytes)%16]
abbrev N(n:Nat):Value:=.int .i64 (n:Int)
theorem Oq(l:List UInt8)(b:UInt8):Gc (l++[b])=Gc l++[b.toNat/16,b.toNat%16]:=by simp[Gc]
theorem Ot(l:List UInt8)(b:UInt8):Gd (l++[b])=Gd l+(b.toNat/16+b.toNat%16):=by simp[Gd]
theorem Kg:∀l:List UInt8,Gd l≤30*l.length
 |[]=>by simp[Gd]
 |b::r=>by
  have h:=Kg r;have hb:=b.toNat_lt;simp only[Gd,List.map_cons,List.sum_cons,Af]at*;omega
theorem IC:∀l:List UInt8,(Gc l).length=2*l.length
 |[]=>rfl
 |b::r=>by
  have h:=IC r;simp only[Gc,List.flatMap_cons,AI,Af,List.length_nil]at*;omega
theorem Ns:∀(l:List UInt8) (d:Nat),d∈Gc l→d≤15
 |[],d,h=>by simp[Gc]at h
 |b::r,d,h=>by
  have hb:=b.toNat_lt;simp only[Gc,List.flatMap_cons,AP,List.mem_cons,List.not_mem_nil,or_false]at h;rcases h with(h|h)|h
  ·omega
  ·omega
  ·exact Ns r d (by simpa[Gc]using h)
theorem Jj(m:Nm):(FI m).length=18:=by simp[FI,IC,Nm.bytes]
theorem Ou(m:Nm)(d:Nat)(h:d∈FI m):d≤15:=by
 have hs:=Kg m.bytes;have hl:m.bytes.length=8:=rfl;simp only[FI,AP,List.mem_cons,List.not_mem_nil,or_false]at h;rcases h with h|h|h
 ·exact Ns _ d h
 ·omega
 ·omega
theorem F6{α:Type}(l:List α)(k:Nat)(h:k<l.length):l.take (k+1)=l.take k++[l[k]]:=List.take_succ_eq_append_getElem h
def FJ(v:Nm)(c p:Nat):Nat→Nm
 |0=>v
 |n+1=>De (33::((FJ v c p n).bytes++[UInt8.ofNat c,UInt8.ofNat (p+n)]))
def TG(l:List Nm):Nm:=De (34::l.flatMap Nm.bytes)
end
end Go.Proofs.YtadllffeoibelaaGreat
