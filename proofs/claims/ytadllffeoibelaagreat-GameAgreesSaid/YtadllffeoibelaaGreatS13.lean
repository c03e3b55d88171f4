/-
  What these parts of the proof come to, functions walked and plain laws: OneS, Root. No condition.
-/
import Derived.Test.YtadllffeoibelaaGreatS12
import Derived.Test.YtadllffeoibelaaGreatS5
import Derived.Deep.DeepCutAuto
import Derived.Test.YtadllffeoibelaaGreatS6
import Derived.Test.YtadllffeoibelaaGreatS4
namespace Go.Proofs.YtadllffeoibelaaGreat
set_option maxRecDepth 100000
set_option maxHeartbeats 32000000
set_option linter.all false
section
open Go.RowKit
theorem Iq(s r:Nm)(c:Nat)(w:World)(hc:c≤255)(hr:Im s c=r):Calls Tryz.prog 189 #[s.val,.int .i64 (c:Int)] w (BT w r):=by
 obtain⟨i0,hi,hz0,hz1,hz2⟩:=info_parts Bt;have hr2:De (32::(s.bytes++[UInt8.ofNat c]))=r:=hr;have Hr:=AA hr2;clear hr hr2;have hb1:=JS c hc;generalize UInt8.ofNat c=b1 at*;have HB1:=AA hb1;clear hb1;go_enter Tryz.func189,Tryz.ntmps189;go_upto_region 1 with fail
 have hX:Blk ((w.alloc (Obj.cells s.cells 24)).alloc (Obj.cells BG 24)) w.heap.size 24 s.cells:=(Blk.new w _ _).alloc _;have hR:Blk ((w.alloc (Obj.cells s.cells 24)).alloc (Obj.cells BG 24)) (w.heap.size+1) 24 BG:=by
  have:=Blk.new (w.alloc (Obj.cells s.cells 24)) 24 BG;simpa using this
 have hb:Below w.heap.size w ((w.alloc (Obj.cells s.cells 24)).alloc (Obj.cells BG 24)):=((AC _ _).alloc (AB _) _).alloc (by simp) _;generalize ((w.alloc (Obj.cells s.cells 24)).alloc (Obj.cells BG 24))=wr at*;have hltX:=hX.lt;go_wp2_with (at_builtin;refine wpList_append_grows _ rfl (.tmp 5) (.tmp 8) _ rfl 5 i0 (.int .u8 0) 1 1 Tryz.underlying60 hi hz0 hz1 hz2 rfl (by decide) (some ⟨w.heap.size,0,none⟩) 8 8 (s.bytes.map B) rfl ?r0 rfl ?r1 ⟨wr.heap.size,0,none⟩ 1 1 [B b1] rfl rfl ?r2 ?r3 ?r4 ?r5 ?r6 ?_)
 case r0=>intro h;cases h
 case r1=>
  intro b hbe j u hu;injection hbe with hbe;subst hbe
  rw[Addr.add_mid,Nat.zero_add,(hX.alloc _).cell];simpa[Nm.bytes]using hu
 case r2=>
  intro j u hu;rw[Addr.add_mid,Nat.zero_add,(Blk.new wr _ _).cell,←hu,HB1.out];simp
 case r3=>intro u hu;simp at hu;rcases hu with rfl;rfl
 case r4=>omega
 case r5=>unfold maxLen;omega
 case r6=>omega
 intro v2 w2 hown2 hg2;have hR2:=(hR.alloc _).kept hg2 (by simp);have hb2:=Ck (hb.alloc hb.size _) hg2;have e:s.bytes.map B++[B b1]=(s.bytes++[b1]).map B:=by simp
 rw[e]at hown2;obtain⟨A2,c2,rfl⟩:=Ar hown2;have hcall:Calls Tryz.prog 50 #[.int .u8 32,.slice A2 (8+1) c2] w2 (BT w2 r):=B8 32 A2 c2 (s.bytes++[b1]) r w2 (Rd.of_own hown2) (by simp[Nm.bytes]) Hr.out;have HC:=AA hcall;clear hcall e hown2 hg2 hX hR hb;go_wp2_with fail
 refine HC.out.mono ?_;rintro en w3 ⟨rfl,hb3⟩;have hR3:=hR2.below hb3 hR2.lt;have hbw3:=hb2.trans (hb3.mono hb2.size);clear hR2 hb2 hb3 HC;go_wp2_with (refine AJ rfl 24 (.tmp 4) (.tmp 10) rfl (w.heap.size+1) _ rfl rfl 24 _ hR3 rfl Ap ?s2 ?_)
 case s2=>exact⟨rfl,rfl,rfl,rfl,rfl,rfl,rfl,rfl⟩
 intro w4 hR4 hg4 hs4;have hbw4:Below w.heap.size w w4:=hbw3.grown hg4 hbw3.size (by rintro j ⟨⟩;omega);go_wp2;exact bodyPost_ret (results_cell_row (g:=w.heap.size+1) rfl _ _ _ _ _ _ rfl hR4 Tryz.underlying24 rfl Ap) rfl ⟨rfl,hbw4⟩
theorem EJ{α:Type}(f:Nat→α)(k:Nat):(List.range (k+1)).map f=(List.range k).map f++[f k]:=by simp[List.range_succ]
theorem KQ(s r:Nm)(w:World)(hr:PV s=r):Calls Tryz.prog 139 #[s.val] w (BT w r):=by
 obtain⟨Z,hZ⟩:∃Z,Z=Array.replicate 144 (Value.int .u8 0):=⟨_,rfl⟩;have hmk:∀W:World,(Instr.makeSlice 75 (.int .i64 18) (.int .i64 18)).run Tryz.prog W= .ok (.slice (some ⟨W.heap.size,0,none⟩) 18 18) (W.alloc (.cells Z 24)):=fun W=>by rw[hZ];kernel_rfl
 have HZ:Hid (Z.size=8*18):=by rw[hZ];exact Array.size_replicate
 have Hr:=AA hr;clear hZ hr;go_enter Tryz.func139,Tryz.ntmps139;go_upto_region 2 with fail
 clear hmk;have hX:Blk (((w.alloc (Obj.cells s.cells 24)).alloc (Obj.cells BG 24)).alloc (Obj.cells Z 24)) w.heap.size 24 s.cells:=((Blk.new w _ _).alloc _).alloc _;have hR:Blk (((w.alloc (Obj.cells s.cells 24)).alloc (Obj.cells BG 24)).alloc (Obj.cells Z 24)) (w.heap.size+1) 24 BG:=by
  have:=(Blk.new (w.alloc (Obj.cells s.cells 24)) 24 BG).alloc (Obj.cells Z 24);simpa using this
 have hN:Ba (((w.alloc (Obj.cells s.cells 24)).alloc (Obj.cells BG 24)).alloc (Obj.cells Z 24)) (w.heap.size+1+1) 18 []:=by
  have:=Ba.zero ((w.alloc (Obj.cells s.cells 24)).alloc (Obj.cells BG 24)) Z 18 HZ.out;simpa using this
 have hbW:Below w.heap.size w (((w.alloc (Obj.cells s.cells 24)).alloc (Obj.cells BG 24)).alloc (Obj.cells Z 24)):=(((AC _ _).alloc (AB _) _).alloc (by simp) _).alloc (by simp;omega) _;generalize (((w.alloc (Obj.cells s.cells 24)).alloc (Obj.cells BG 24)).alloc (Obj.cells Z 24))=W at*;try go_frame
 go_wp2_with fail
 go_loopw [6] (fun i wr=>∃k:Nat,k≤18∧i= .int .i64 k∧Ba wr (w.heap.size+1+1) 18 ((List.range k).map (Dx s))∧Blk wr w.heap.size 24 s.cells∧Blk wr (w.heap.size+1) 24 BG∧Below w.heap.size w wr)
  (fun i _=>18-(intOf i).toNat)
 case atStart=>exact⟨0,by omega,rfl,hN,hX,hR,hbW⟩
 case round=>
  clear hN hX hR hbW;obtain⟨k,hk,rfl,hN,hX,hR,hb⟩:=hrel;by_cases hlt:k<18
  ·have e1:=EJ (Dx s) k;have E1:=AA e1;clear e1;have E2:Hid (((List.range k).map (Dx s)).length=k):=by show _=_;simp
   generalize (List.range k).map (Dx s)=nl at*;obtain⟨y,hy⟩:∃y,Dx s k=y:=⟨_,rfl⟩;obtain⟨x,hx⟩:∃x,Im s k=x:=⟨_,rfl⟩;have e3:FJ x k 0 (15-0)=y:=by rw[←hx,←hy];rfl
   have HS:Hid (∀W,Calls Tryz.prog 189 #[s.val,.int .i64 (k:Int)] W (BT W x)):=fun W=>Iq s x k W (by omega) hx
   have HW:Hid (∀W,Calls Tryz.prog 188 #[x.val,.int .i64 (k:Int),.int .i64 0,.int .i64 15] W (BT W y)):=fun W=>by
    rw[←e3];exact MA x k 0 15 W (by omega) (by omega) (by omega)
   rw[hy]at E1;clear hx hy e3;have hltX:=hX.lt;go_wp2_with (first
    |(refine wpList_load_row rfl 24 (.tmp 1) rfl w.heap.size rfl 24 s.cells (0,0) _ hX Tryz.underlying24 rfl Ap ?_)
    |(go_at_call 189;refine(HS.out _).mono ?_;rintro en w2 ⟨rfl,hb2⟩;have hN2:=hN.below hb2 hN.lt;have hX2:=hX.below hb2 hX.lt;have hR2:=hR.below hb2 hR.lt;have hbw2:=hb.trans (hb2.mono hb.size);clear HS)
    |(go_at_call 188;refine(HW.out _).mono ?_;rintro en w3 ⟨rfl,hb3⟩;have hN3:=hN2.below hb3 hN2.lt;have hX3:=hX2.below hb3 hX2.lt;have hR3:=hR2.below hb3 hR2.lt;have hbw3:=hbw2.trans (hb3.mono hbw2.size))
    |(refine DC rfl 24 (.tmp 16) (.tmp 15) rfl (w.heap.size+1+1) 18 k nl y rfl rfl hN3 E2.out hlt Ap ?_))
   intro w4 hN4 hg4 hs4;have hX4:=hX3.kept hg4 (by simp;omega);have hR4:=hR3.kept hg4 (by simp);have hbw4:Below w.heap.size w w4:=hbw3.grown hg4 hbw3.size (by rintro j ⟨⟩;omega);clear hN hX hR hb hb2 hN2 hX2 hR2 hbw2 hb3 hN3 hX3 hR3 hbw3 hg4 hs4 HW;go_wp2;go_roundw
   case rel=>exact⟨k+1,by omega,by go_num,by rw[E1.out];exact hN4,hX4,hR4,hbw4⟩
   case measure=>simp[intOf];omega
  ·obtain rfl:k=18:=by omega
   have hcall:Calls Tryz.prog 190 #[.slice (some ⟨w.heap.size+1+1,0,none⟩) 18 18] wr (BT wr r):=by
    have h:=M7 (some ⟨w.heap.size+1+1,0,none⟩) 18 ((List.range 18).map (Dx s)) wr hN.rd (by simp);rw[AY,List.length_range]at h;rw[←Hr.out];exact h
   have HC:=AA hcall;clear hcall hN hX;go_wp2_with fail
   refine HC.out.mono ?_;rintro en w3 ⟨rfl,hb3⟩;have hR3:=hR.below hb3 hR.lt;have hbw3:=hb.trans (hb3.mono hb.size);clear hR hb hb3 HC;go_wp2_with (refine AJ rfl 24 (.tmp 2) (.tmp 19) rfl (w.heap.size+1) _ rfl rfl 24 _ hR3 rfl Ap ?s2 ?_)
   case s2=>exact⟨rfl,rfl,rfl,rfl,rfl,rfl,rfl,rfl⟩
   intro w4 hR4 hg4 hs4;have hbw4:Below w.heap.size w w4:=hbw3.grown hg4 hbw3.size (by rintro j ⟨⟩;omega);go_wp2;exact bodyPost_ret (results_cell_row (g:=w.heap.size+1) rfl _ _ _ _ _ _ rfl hR4 Tryz.underlying24 rfl Ap) rfl ⟨rfl,hbw4⟩
theorem OM(s m:Nm)(w:World):Calls Tryz.prog 220 #[s.val,m.val] w (KB w 18 (In s m)):=by
 obtain⟨Z,hZ⟩:∃Z,Z=Array.replicate 144 (Value.int .u8 0):=⟨_,rfl⟩;have hmk:∀W:World,(Instr.makeSlice 75 (.int .i64 18) (.int .i64 18)).run Tryz.prog W= .ok (.slice (some ⟨W.heap.size,0,none⟩) 18 18) (W.alloc (.cells Z 24)):=fun W=>by rw[hZ];kernel_rfl
 have HZ:Hid (Z.size=8*18):=by rw[hZ];exact Array.size_replicate
 clear hZ;go_enter Tryz.func220,Tryz.ntmps220;go_upto_region 2 with fail
 clear hmk;have hX:Blk (((w.alloc (Obj.cells s.cells 24)).alloc (Obj.cells m.cells 24)).alloc (Obj.cells Z 24)) w.heap.size 24 s.cells:=((Blk.new w _ _).alloc _).alloc _;have hM:Blk (((w.alloc (Obj.cells s.cells 24)).alloc (Obj.cells m.cells 24)).alloc (Obj.cells Z 24)) (w.heap.size+1) 24 m.cells:=by
  have:=(Blk.new (w.alloc (Obj.cells s.cells 24)) 24 m.cells).alloc (Obj.cells Z 24);simpa using this
 have hN:Ba (((w.alloc (Obj.cells s.cells 24)).alloc (Obj.cells m.cells 24)).alloc (Obj.cells Z 24)) (w.heap.size+1+1) 18 []:=by
  have:=Ba.zero ((w.alloc (Obj.cells s.cells 24)).alloc (Obj.cells m.cells 24)) Z 18 HZ.out;simpa using this
 have hbW:Below w.heap.size w (((w.alloc (Obj.cells s.cells 24)).alloc (Obj.cells m.cells 24)).alloc (Obj.cells Z 24)):=(((AC _ _).alloc (AB _) _).alloc (by simp) _).alloc (by simp;omega) _;generalize (((w.alloc (Obj.cells s.cells 24)).alloc (Obj.cells m.cells 24)).alloc (Obj.cells Z 24))=W at*;try go_frame
 go_wp2_with (refine wpList_load_row rfl 24 (.tmp 3) rfl (w.heap.size+1) rfl 24 m.cells (0,0) _ hM Tryz.underlying24 rfl Ap ?_)
 clear hM;refine(M8 m W).mono ?_;rintro en w1 ⟨A1,c1,rfl,hown,hb1⟩;replace hX:=hX.below hb1 hX.lt;replace hN:=hN.below hb1 hN.lt;replace hown:=BF hown hbW.size;replace hbW:=hbW.trans (hb1.mono hbW.size);clear hb1 HZ;have hdl:=Jj m;have hdle:=Ou m;obtain⟨gd,od,rfl,_,_⟩:=(Rd.of_own hown).cells (by intro e;rw[List.map_eq_nil_iff]at e;rw[e]at hdl;simp at hdl);obtain⟨ds,hds⟩:∃ds,ds=FI m:=⟨_,rfl⟩;rw[←hds]at hown hdl hdle;have Hds:=AA hds;clear hds;have Hdl:=AA hdl;clear hdl;have Hdle:=AA hdle;clear hdle;go_wp2_with fail
 go_loopw [12] (fun i wr=>∃k:Nat,k≤18∧i= .int .i64 k∧Ba wr (w.heap.size+1+1) 18 ((List.range k).map (FW s m))∧Blk wr w.heap.size 24 s.cells∧wr.ownsRow w.heap.size 3 1 (.slice (some ⟨gd,od,none⟩) 18 c1) 18 (ds.map N)∧Below w.heap.size w wr)
  (fun i _=>18-(intOf i).toNat)
 case atStart=>exact⟨0,by omega,rfl,hN,hX,hown,hbW⟩
 case round=>
  clear hN hX hown hbW;obtain⟨k,hk,rfl,hN,hX,hown,hb⟩:=hrel;by_cases hlt:k<18
  ·have e1:=EJ (FW s m) k;have E1:=AA e1;clear e1;have E2:Hid (((List.range k).map (FW s m)).length=k):=by show _=_;simp
   generalize (List.range k).map (FW s m)=nl at*;have hdk:=O8 0 (l:=ds) (k:=k) (by rw[Hdl.out];exact hlt);have hd15:=Hdle.out _ (AM hdk);obtain⟨y,hy⟩:∃y,FW s m k=y:=⟨_,rfl⟩;obtain⟨x,hx⟩:∃x,Im s k=x:=⟨_,rfl⟩;have e3:FJ x k 0 (ds.getD k 0-0)=y:=by rw[←hx,←hy,Hds.out];rfl
   generalize ds.getD k 0=d at*;have hdc:wr.cell? ⟨gd,od+k,none⟩=some (N d):=by
    obtain⟨gd',od',he,_,hc⟩:=(Rd.of_own hown).cells (by intro e;rw[e]at hown;have:=hown.1;simp at this);injection he with he
    injection he with h1 h2
    subst h1;subst h2;exact hc k _ (by rw[AU,hdk];rfl)
   have HS:Hid (∀W,Calls Tryz.prog 189 #[s.val,.int .i64 (k:Int)] W (BT W x)):=fun W=>Iq s x k W (by omega) hx
   have HW:Hid (∀W,Calls Tryz.prog 188 #[x.val,.int .i64 (k:Int),.int .i64 0,.int .i64 (d:Int)] W (BT W y)):=fun W=>by
    rw[←e3];exact MA x k 0 d W (by omega) (by omega) (by omega)
   rw[hy]at E1;clear hx hy e3 hdk;have hltX:=hX.lt;go_wp2_with (first
    |(refine wpList_load_row rfl 24 (.tmp 2) rfl w.heap.size rfl 24 s.cells (0,0) _ hX Tryz.underlying24 rfl Ap ?_)
    |(go_at_call 189;refine(HS.out _).mono ?_;rintro en w2 ⟨rfl,hb2⟩;have hN2:=hN.below hb2 hN.lt;have hX2:=hX.below hb2 hX.lt;have hown2:=BA hown hb2 (AB _);have hbw2:=hb.trans (hb2.mono hb.size);clear HS)
    |(go_at_call 188;refine(HW.out _).mono ?_;rintro en w3 ⟨rfl,hb3⟩;have hN3:=hN2.below hb3 hN2.lt;have hX3:=hX2.below hb3 hX2.lt;have hown3:=BA hown2 hb3 (AB _);have hbw3:=hbw2.trans (hb3.mono hbw2.size))
    |(refine DC rfl 24 (.tmp 25) (.tmp 24) rfl (w.heap.size+1+1) 18 k nl y rfl rfl hN3 E2.out hlt Ap ?_))
   intro w4 hN4 hg4 hs4;have hX4:=hX3.kept hg4 (by simp;omega);have hown4:=hown3.kept hg4 (by
    obtain⟨cur,hC,_⟩:=hN3;exact .inr fun e=>CC hown3 hC (by decide) e.symm)
   have hbw4:Below w.heap.size w w4:=hbw3.grown hg4 hbw3.size (by rintro j ⟨⟩;omega);clear hN hX hown hb hb2 hN2 hX2 hown2 hbw2 hb3 hN3 hX3 hown3 hbw3 hg4 hs4 HW hdc;go_wp2;go_roundw
   case rel=>exact⟨k+1,by omega,by go_num,by rw[E1.out];exact hN4,hX4,hown4,hbw4⟩
   case measure=>simp[intOf];omega
  ·obtain rfl:k=18:=by omega
   clear hX hown;go_wp2;go_ret;exact⟨_,rfl,hN,hb⟩
end
section
open Go.RowKit
attribute [local go_sem ↓] Go.wp_at_zero Go.wp_at_succ An
attribute [local go_sem] BD AN AW AQ
theorem Th{w:World}{B' b o:Nat}{l:List Nm}{k:Nat}{x:Nm}(h:Rd w B' (some ⟨b,o,none⟩) (l.flatMap nmc))(hk:l[k]? =some x):AK w b (o+k*8) 8=some x.cells:=by
 obtain⟨b',o',e,_,hc⟩:=h.name hk;injection e with e
 injection e with e1 e2
 subst e1;subst e2;exact Bo (fun j u hu=>hc j u (by simpa using hu)) rfl
theorem PW{w:World}{B':Nat}{A:Option Addr}{l:List Nm}(h:Rd w B' A (l.flatMap nmc))(k:Nat):Rd w B' A ((l.take k).flatMap nmc):=by
 have h1:=h.take (k*8);have e:(l.flatMap nmc).take (k*8)=(l.take k).flatMap nmc:=by
  clear h h1
  induction l generalizing k with
  |nil=>simp
  |cons a r ih=>
   cases k with
   |zero=>simp
   |succ k=>
    rw[List.flatMap_cons,List.take_succ_cons,List.flatMap_cons,←ih k,Nat.succ_mul,Nat.add_comm (k*8) 8];exact List.take_length_add_append (l₁:=nmc a) (k*8)
 rw[←e];exact h1
theorem PX{w:World}{B' b o:Nat}{l:List Nm}(h:Rd w B' (some ⟨b,o,none⟩) (l.flatMap nmc))(k:Nat):Rd w B' (some ⟨b,o+k*8,none⟩) ((l.drop k).flatMap nmc):=by
 rcases h with h|⟨b',o',e,hb,hc⟩
 ·refine .inl ?_;have h0:l=[]:=by
   cases l with
   |nil=>rfl
   |cons a r=>simp at h
  rw[h0];simp
 ·injection e with e
  injection e with e1 e2
  subst e1;subst e2;refine .inr ⟨b,o+k*8,rfl,hb,fun j u hu=>?_⟩;rw[Nat.add_assoc];refine hc _ u ?_;rw[←hu];clear hu hc
  induction l generalizing k with
  |nil=>simp
  |cons a r ih=>
   cases k with
   |zero=>simp
   |succ k=>
    rw[List.drop_succ_cons,←ih k,List.flatMap_cons,show(k+1)*8+j=8+(k*8+j)from by omega,List.getElem?_append_right (by simp)];simp
theorem FA(x:Nm){u:Value}(h:u∈x.cells.toList):u.oneCell'=true:=by
 simp at h;rcases h with rfl|rfl|rfl|rfl|rfl|rfl|rfl|rfl <;> rfl
theorem MV(d n k c b o:Nat)(r1 r2 r:Nm)(w:World)(hk:k=2^d)(hn:n=2^(d+1))(hd:d≤40)(hc:n≤c)(h1:∀W,Below w.heap.size w W→Calls Tryz.prog 91 #[.slice (some ⟨b,o,none⟩) k c] W (BT W r1))(h2:∀W,Below w.heap.size w W→Calls Tryz.prog 91 #[.slice (some ⟨b,o+k*8,none⟩) k (c-k)] W (BT W r2))(hr:De (18::(r1.bytes++r2.bytes))=r):Calls Tryz.prog 91 #[.slice (some ⟨b,o,none⟩) n c] w (BT w r):=by
 have HS:=AA hr;clear hr;have H1:=AA h1;clear h1;have H2:=AA h2;clear h2;have hk1:1≤k:=by rw[hk];exact Nat.one_le_two_pow
 have hkb:k≤1099511627776:=by rw[hk];exact Nat.pow_le_pow_right (j:=40) (by omega) hd
 have h2k:n=2*k:=by rw[hn,hk,Nat.pow_succ];omega
 have hcall:∀W,Calls Tryz.prog 137 #[.int .i64 (n:Int)] W fun en w'=>en= .returned (.int .i64 (k:Int))∧w'=W:=fun W=>by
  rw[hk];exact Dn d n W hn hd
 have HC:=AA hcall;clear hcall;have hne0:((n:Int)==0)=false:=by rw[beq_eq_false_iff_ne];omega
 have hne1:((n:Int)==1)=false:=by rw[beq_eq_false_iff_ne];omega
 clear hk hn;subst h2k;have i1:(0:Int)≤(k:Int):=by omega
 have i2:(k:Int)≤(c:Int):=by omega
 have i3:(k:Int)≤((2*k:Nat):Int):=by omega
 have i4:¬c=k:=by omega
 have i5:2*k-k=k:=by omega
 have i6:((2*k:Nat):Int)≤(c:Int):=by omega
 obtain⟨n,hn⟩:∃n,n=2*k:=⟨_,rfl⟩;rw[←hn]at hne0 hne1 HC i3 i5 i6 ⊢;clear hn;go_enter Tryz.func91,Tryz.ntmps91;go_upto_region 7 with((go_at_call 137;refine(HC.out _).mono ?_;rintro en w' ⟨rfl,rfl⟩))
 have hR:Blk (w.alloc (Obj.cells BG 24)) w.heap.size 24 BG:=Blk.new w _ _;have hbW:Below w.heap.size w (w.alloc (Obj.cells BG 24)):=(AC _ _).alloc (AB _) _;generalize (w.alloc (Obj.cells BG 24))=W at*;refine rgD (fun _=>True) (trivial) fun hHeld=>?_
 refine tkD 18 0 ?_;go_frame;refine tkD 19 1 ?_;go_frame;refine tkD 20 2 ?_;go_frame;refine tkD 22 4 ?_;go_frame;refine tkD 23 5 ?_;go_frame;refine tkD 24 6 ?_;go_frame;refine rd1 3 fun K hK=>?_
 go_simp;refine(H1.out _ hbW.drew).mono ?_;rintro en w2 ⟨rfl,hb2⟩;have hbx2:=hbW.drew.trans (hb2.mono hbW.size);have hR2:=hR.drew.below hb2 hR.drew.lt;go_wp2_with fail
 refine hK.out _ _ (trivial) (fun hHeld=>?_);clear hK K;try go_frame
 refine rd1 7 fun K hK=>?_
 go_simp;refine(H2.out _ hbx2).mono ?_;rintro en w3 ⟨rfl,hb3⟩;have hbx3:=hbx2.trans (hb3.mono hbx2.size);have hR3:=hR2.below hb3 hR2.lt;go_wp2_with fail
 refine hK.out _ _ (trivial) (fun hHeld=>?_);clear hK K;try go_frame
 refine rd1 8 fun K hK=>?_
 go_simp;refine(Oo 18 r1 r2 r _ HS.out).mono ?_;rintro en w4 ⟨rfl,hb4⟩;have hbx4:=hbx3.trans (hb4.mono hbx3.size);have hR4:=hR3.below hb4 hR3.lt;go_wp2_with fail
 refine hK.out _ _ (trivial) (fun hHeld=>?_);clear hK K;try go_frame
 refine rd1 9 fun K hK=>?_
 rw[if_pos (by rfl)];refine BQ 24 (.tmp 2) (.tmp 26) (by rfl) w.heap.size r.cells (by rfl) (by rfl) 24 BG hR4 rfl Ap ?st1 (by rfl) ?_
 case st1=>exact fun u hu=>FA r hu
 intro w5 hR5 hg5 hs5;refine hK.out _ _ (trivial) (fun hHeld=>?_);clear hK K;try go_frame
 refine dnD ?_;have hbw5:Below w.heap.size w w5:=hbx4.grown hg5 hbx4.size (by rintro j ⟨⟩;omega);go_wp2;exact bodyPost_ret (results_cell_row (g:=w.heap.size) (cs:=r.cells) rfl _ _ _ _ _ rfl hR5 Tryz.underlying24 rfl Ap) rfl ⟨rfl,hbw5⟩
theorem MW(x r:Nm)(b o c:Nat)(w:World)(hx:AK w b o 8=some x.cells)(hb:b<w.heap.size)(hr:De (17::x.bytes)=r):Calls Tryz.prog 91 #[.slice (some ⟨b,o,none⟩) 1 c] w (BT w r):=by
 have HS:=AA hr;clear hr;have hx2:AK (w.alloc (Obj.cells BG 24)) b o 8=some x.cells:=Ay hx ((AC _ _).alloc (AB _) _) hb;clear hx;go_enter Tryz.func91,Tryz.ntmps91;go_upto_region 5 with fail
 have hR:Blk (w.alloc (Obj.cells BG 24)) w.heap.size 24 BG:=Blk.new w _ _;have hbW:Below w.heap.size w (w.alloc (Obj.cells BG 24)):=(AC _ _).alloc (AB _) _;generalize (w.alloc (Obj.cells BG 24))=W at*;go_wp2_with (first
  |(go_at_call 136;refine(Lu x r _ HS.out).mono ?_;rintro en w5 ⟨rfl,hb5⟩;have hR5:=hR.below hb5 hR.lt;have hbw5:=hbW.trans (hb5.mono hbW.size))
  |(refine AJ rfl 24 (.tmp 2) (.tmp 14) rfl w.heap.size _ rfl rfl 24 _ hR5 rfl Ap ?s2 ?_))
 case s2=>exact⟨rfl,rfl,rfl,rfl,rfl,rfl,rfl,rfl⟩
 intro w6 hR6 hg6 hs6;have hbw6:Below w.heap.size w w6:=hbw5.grown hg6 hbw5.size (by rintro j ⟨⟩;omega);go_wp2;exact bodyPost_ret (results_cell_row (g:=w.heap.size) rfl _ _ _ _ _ _ rfl hR6 Tryz.underlying24 rfl Ap) rfl ⟨rfl,hbw6⟩
theorem IM{w:World}{B':Nat}{A:Option Addr}{l:List Nm}(h:Rd w B' A (l.flatMap nmc))(hl:0<l.length):∃b o,A=some ⟨b,o,none⟩∧b<B':=by
 obtain⟨b,o,e,hb,_⟩:=h.cells (by intro e;have:=AX nmc 8 l (Cb l);rw[e]at this;simp at this;omega);exact⟨b,o,e,hb⟩
theorem ET:∀(d:Nat) (l:List Nm) (A:Option Addr) (n c:Nat) (w:World),l.length=n→n=2^d→d≤40→n≤c→c≤maxLen→Rd w w.heap.size A (l.flatMap nmc)→Calls Tryz.prog 91 #[.slice A n c] w (BT w (E8 d l))
 |0,l,A,n,c,w,hl,hn,_,_,_,hr=>by
  obtain rfl:n=1:=hn;obtain⟨b,o,rfl,hb⟩:=IM hr (by omega);obtain⟨x,hx⟩:∃x,l[0]? =some x:=⟨_,AE (by omega)⟩;have e:E8 0 l=De (17::x.bytes):=by rw[E8,List.getD_eq_getElem?_getD,hx];rfl
  rw[e];exact MW x _ b o c w (by simpa using Th hr (k:=0) hx) hb rfl
 |d+1,l,A,n,c,w,hl,hn,hd,hc,hm,hr=>by
  have h2:n=2*2^d:=by rw[hn,Nat.pow_succ];omega
  have hp:1≤2^d:=Nat.one_le_two_pow;obtain⟨b,o,rfl,hb⟩:=IM hr (by omega);exact MV d n (2^d) c b o _ _ _ w rfl hn (by omega) hc
   (fun W hW=>ET d (l.take (2^d)) _ _ c W (by rw[AZ];omega) rfl (by omega) (by omega) hm (PW ((hr.below hW).more hW.size) _))
   (fun W hW=>ET d (l.drop (2^d)) _ _ (c-2^d) W (by rw[List.length_drop];omega) rfl (by omega) (by omega) (by omega) (PX ((hr.below hW).more hW.size) _)) rfl
end
end Go.Proofs.YtadllffeoibelaaGreat
