/-
  What these parts of the proof come to, functions walked and plain laws: OneS, Root. No condition.
-/
import Derived.Test.YtadllffeoibelaaGreatS12
import Derived.Test.YtadllffeoibelaaGreatS5
import Derived.Deep.DeepCutAuto
import Derived.Test.YtadllffeoibelaaGreatS6
import Derived.Test.YtadllffeoibelaaGreatS9
namespace Go.Proofs.YtadllffeoibelaaGreat
section
open Go.RowKit
set_option maxRecDepth 100000 in
set_option maxHeartbeats 1000000 in
theorem start_core (s r : Nm) (c : Nat) (w : World) (hc : c≤255) (hr : startF s c = r) : Calls Tryz.prog 189 #[s.val,.int .i64 (c : Int)] w (NmPost w r):=by
 obtain ⟨i0,hi,hz0,hz1,hz2⟩:=info_parts info_byte
 have hr2 : sumF (32 :: (s.bytes ++ [UInt8.ofNat c])) = r:=hr
 have Hr:=Lib.hid hr2; clear hr hr2
 have hb1:=bn_eq c hc
 generalize UInt8.ofNat c = b1 at *
 have HB1:=Lib.hid hb1; clear hb1
 go_enter Tryz.func189,Tryz.ntmps189
 go_upto_region 1 with fail
 have hX : Blk ((w.alloc (Obj.cells s.cells 24)).alloc (Obj.cells zero8 24)) w.heap.size 24 s.cells:=(Blk.new w _ _).alloc _
 have hR : Blk ((w.alloc (Obj.cells s.cells 24)).alloc (Obj.cells zero8 24)) (w.heap.size + 1) 24 zero8:=by
  have:=Blk.new (w.alloc (Obj.cells s.cells 24)) 24 zero8
  simpa using this
 have hb : Below w.heap.size w ((w.alloc (Obj.cells s.cells 24)).alloc (Obj.cells zero8 24)):=((Below.refl _ _).alloc (Nat.le_refl _) _).alloc (by simp) _
 generalize ((w.alloc (Obj.cells s.cells 24)).alloc (Obj.cells zero8 24)) = wr at *
 have hltX:=hX.lt
 go_wp2_with (at_builtin; refine wpList_append_grows _ rfl (.tmp 5) (.tmp 8) _ rfl 5 i0 (.int .u8 0) 1 1 Tryz.underlying60 hi hz0 hz1 hz2 rfl (by decide) (some ⟨w.heap.size,0,none⟩) 8 8 (s.bytes.map B) rfl ?r0 rfl ?r1 ⟨wr.heap.size,0,none⟩ 1 1 [B b1] rfl rfl ?r2 ?r3 ?r4 ?r5 ?r6 ?_)
 case r0 => intro h; cases h
 case r1 =>
  intro b hbe j u hu
  injection hbe with hbe; subst hbe
  rw [Addr.add_mid,Nat.zero_add,(hX.alloc _).cell]
  simpa [Nm.bytes] using hu
 case r2 =>
  intro j u hu
  rw [Addr.add_mid,Nat.zero_add,(Blk.new wr _ _).cell,← hu,HB1.out]
  simp
 case r3 => intro u hu; simp at hu; rcases hu with rfl; rfl
 case r4 => omega
 case r5 => unfold maxLen; omega
 case r6 => omega
 intro v2 w2 hown2 hg2
 have hR2:=(hR.alloc _).kept hg2 (by simp)
 have hb2:=below_none (hb.alloc hb.size _) hg2
 have e : s.bytes.map B ++ [B b1] = (s.bytes ++ [b1]).map B:=by simp
 rw [e] at hown2
 obtain ⟨A2,c2,rfl⟩:=own_form hown2
 have hcall : Calls Tryz.prog 50 #[.int .u8 32,.slice A2 (8 + 1) c2] w2 (NmPost w2 r):=tagged_core 32 A2 c2 (s.bytes ++ [b1]) r w2 (Rd.of_own hown2) (by simp [Nm.bytes]) Hr.out
 have HC:=Lib.hid hcall
 clear hcall e hown2 hg2 hX hR hb
 go_wp2_with fail
 refine HC.out.mono ?_
 rintro en w3 ⟨rfl,hb3⟩
 have hR3:=hR2.below hb3 hR2.lt
 have hbw3:=hb2.trans (hb3.mono hb2.size)
 clear hR2 hb2 hb3 HC
 go_wp2_with (refine wpList_store_blk rfl 24 (.tmp 4) (.tmp 10) rfl (w.heap.size + 1) _ rfl rfl 24 _ hR3 rfl size_name ?s2 ?_)
 case s2 => exact ⟨rfl,rfl,rfl,rfl,rfl,rfl,rfl,rfl⟩
 intro w4 hR4 hg4 hs4
 have hbw4 : Below w.heap.size w w4:=hbw3.grown hg4 hbw3.size (by rintro j ⟨⟩; omega)
 go_wp2
 exact bodyPost_ret (results_cell_row (g:=w.heap.size + 1) rfl _ _ _ _ _ _ rfl hR4 Tryz.underlying24 rfl size_name) rfl ⟨rfl,hbw4⟩
theorem mapRange_snoc {α : Type} (f : Nat→α) (k : Nat) : (List.range (k + 1)).map f = (List.range k).map f ++ [f k]:=by simp [List.range_succ]
set_option maxRecDepth 100000 in
set_option maxHeartbeats 2000000 in
theorem opublic_core (s r : Nm) (w : World) (hr : opubF s = r) : Calls Tryz.prog 139 #[s.val] w (NmPost w r):=by
 obtain ⟨Z,hZ⟩ : ∃ Z,Z = Array.replicate 144 (Value.int .u8 0):=⟨_,rfl⟩
 have hmk : ∀ W : World,(Instr.makeSlice 75 (.int .i64 18) (.int .i64 18)).run Tryz.prog W = .ok (.slice (some ⟨W.heap.size,0,none⟩) 18 18) (W.alloc (.cells Z 24)):=fun W => by rw [hZ]; kernel_rfl
 have HZ : Hid (Z.size = 8 * 18):=by rw [hZ]; exact Array.size_replicate
 have Hr:=Lib.hid hr
 clear hZ hr
 go_enter Tryz.func139,Tryz.ntmps139
 go_upto_region 2 with fail
 clear hmk
 have hX : Blk (((w.alloc (Obj.cells s.cells 24)).alloc (Obj.cells zero8 24)).alloc (Obj.cells Z 24)) w.heap.size 24 s.cells:=((Blk.new w _ _).alloc _).alloc _
 have hR : Blk (((w.alloc (Obj.cells s.cells 24)).alloc (Obj.cells zero8 24)).alloc (Obj.cells Z 24)) (w.heap.size + 1) 24 zero8:=by
  have:=(Blk.new (w.alloc (Obj.cells s.cells 24)) 24 zero8).alloc (Obj.cells Z 24)
  simpa using this
 have hN : NamesAt (((w.alloc (Obj.cells s.cells 24)).alloc (Obj.cells zero8 24)).alloc (Obj.cells Z 24)) (w.heap.size + 1 + 1) 18 []:=by
  have:=NamesAt.zero ((w.alloc (Obj.cells s.cells 24)).alloc (Obj.cells zero8 24)) Z 18 HZ.out
  simpa using this
 have hbW : Below w.heap.size w (((w.alloc (Obj.cells s.cells 24)).alloc (Obj.cells zero8 24)).alloc (Obj.cells Z 24)):=(((Below.refl _ _).alloc (Nat.le_refl _) _).alloc (by simp) _).alloc (by simp; omega) _
 generalize (((w.alloc (Obj.cells s.cells 24)).alloc (Obj.cells zero8 24)).alloc (Obj.cells Z 24)) = W at *
 try go_frame
 go_wp2_with fail
 go_loopw [6] (fun i wr => ∃ k : Nat,k≤18∧i = .int .i64 k∧NamesAt wr (w.heap.size + 1 + 1) 18 ((List.range k).map (chainEnd s))∧Blk wr w.heap.size 24 s.cells∧Blk wr (w.heap.size + 1) 24 zero8∧Below w.heap.size w wr)
  (fun i _ => 18 - (intOf i).toNat)
 case atStart => exact ⟨0,by omega,rfl,hN,hX,hR,hbW⟩
 case round =>
  clear hN hX hR hbW
  obtain ⟨k,hk,rfl,hN,hX,hR,hb⟩:=hrel
  by_cases hlt : k < 18
  ·have e1:=mapRange_snoc (chainEnd s) k
   have E1:=Lib.hid e1; clear e1
   have E2 : Hid (((List.range k).map (chainEnd s)).length = k):=by show _ = _; simp
   generalize (List.range k).map (chainEnd s) = nl at *
   obtain ⟨y,hy⟩ : ∃ y,chainEnd s k = y:=⟨_,rfl⟩
   obtain ⟨x,hx⟩ : ∃ x,startF s k = x:=⟨_,rfl⟩
   have e3 : walkF x k 0 (15 - 0) = y:=by rw [← hx,← hy]; rfl
   have HS : Hid (∀ W,Calls Tryz.prog 189 #[s.val,.int .i64 (k : Int)] W (NmPost W x)):=fun W => start_core s x k W (by omega) hx
   have HW : Hid (∀ W,Calls Tryz.prog 188 #[x.val,.int .i64 (k : Int),.int .i64 0,.int .i64 15] W (NmPost W y)):=fun W => by
    rw [← e3]; exact walk_any x k 0 15 W (by omega) (by omega) (by omega)
   rw [hy] at E1
   clear hx hy e3
   have hltX:=hX.lt
   go_wp2_with (first
    | (refine wpList_load_row rfl 24 (.tmp 1) rfl w.heap.size rfl 24 s.cells (0,0) _ hX Tryz.underlying24 rfl size_name ?_)
    | (go_at_call 189; refine (HS.out _).mono ?_; rintro en w2 ⟨rfl,hb2⟩; have hN2:=hN.below hb2 hN.lt; have hX2:=hX.below hb2 hX.lt; have hR2:=hR.below hb2 hR.lt; have hbw2:=hb.trans (hb2.mono hb.size); clear HS)
    | (go_at_call 188; refine (HW.out _).mono ?_; rintro en w3 ⟨rfl,hb3⟩; have hN3:=hN2.below hb3 hN2.lt; have hX3:=hX2.below hb3 hX2.lt; have hR3:=hR2.below hb3 hR2.lt; have hbw3:=hbw2.trans (hb3.mono hbw2.size))
    | (refine wpList_store_name rfl 24 (.tmp 16) (.tmp 15) rfl (w.heap.size + 1 + 1) 18 k nl y rfl rfl hN3 E2.out hlt size_name ?_))
   intro w4 hN4 hg4 hs4
   have hX4:=hX3.kept hg4 (by simp; omega)
   have hR4:=hR3.kept hg4 (by simp)
   have hbw4 : Below w.heap.size w w4:=hbw3.grown hg4 hbw3.size (by rintro j ⟨⟩; omega)
   clear hN hX hR hb hb2 hN2 hX2 hR2 hbw2 hb3 hN3 hX3 hR3 hbw3 hg4 hs4 HW
   go_wp2
   go_roundw
   case rel => exact ⟨k + 1,by omega,by go_num,by rw [E1.out]; exact hN4,hX4,hR4,hbw4⟩
   case measure => simp [intOf]; omega
  ·obtain rfl : k = 18:=by omega
   have hcall : Calls Tryz.prog 190 #[.slice (some ⟨w.heap.size + 1 + 1,0,none⟩) 18 18] wr (NmPost wr r):=by
    have h:=public_any (some ⟨w.heap.size + 1 + 1,0,none⟩) 18 ((List.range 18).map (chainEnd s)) wr hN.rd (by simp)
    rw [List.length_map,List.length_range] at h
    rw [← Hr.out]
    exact h
   have HC:=Lib.hid hcall
   clear hcall hN hX
   go_wp2_with fail
   refine HC.out.mono ?_
   rintro en w3 ⟨rfl,hb3⟩
   have hR3:=hR.below hb3 hR.lt
   have hbw3:=hb.trans (hb3.mono hb.size)
   clear hR hb hb3 HC
   go_wp2_with (refine wpList_store_blk rfl 24 (.tmp 2) (.tmp 19) rfl (w.heap.size + 1) _ rfl rfl 24 _ hR3 rfl size_name ?s2 ?_)
   case s2 => exact ⟨rfl,rfl,rfl,rfl,rfl,rfl,rfl,rfl⟩
   intro w4 hR4 hg4 hs4
   have hbw4 : Below w.heap.size w w4:=hbw3.grown hg4 hbw3.size (by rintro j ⟨⟩; omega)
   go_wp2
   exact bodyPost_ret (results_cell_row (g:=w.heap.size + 1) rfl _ _ _ _ _ _ rfl hR4 Tryz.underlying24 rfl size_name) rfl ⟨rfl,hbw4⟩
set_option maxRecDepth 100000 in
set_option maxHeartbeats 2000000 in
theorem osign_any (s m : Nm) (w : World) : Calls Tryz.prog 220 #[s.val,m.val] w (NamesPost w 18 (osignF s m)):=by
 obtain ⟨Z,hZ⟩ : ∃ Z,Z = Array.replicate 144 (Value.int .u8 0):=⟨_,rfl⟩
 have hmk : ∀ W : World,(Instr.makeSlice 75 (.int .i64 18) (.int .i64 18)).run Tryz.prog W = .ok (.slice (some ⟨W.heap.size,0,none⟩) 18 18) (W.alloc (.cells Z 24)):=fun W => by rw [hZ]; kernel_rfl
 have HZ : Hid (Z.size = 8 * 18):=by rw [hZ]; exact Array.size_replicate
 clear hZ
 go_enter Tryz.func220,Tryz.ntmps220
 go_upto_region 2 with fail
 clear hmk
 have hX : Blk (((w.alloc (Obj.cells s.cells 24)).alloc (Obj.cells m.cells 24)).alloc (Obj.cells Z 24)) w.heap.size 24 s.cells:=((Blk.new w _ _).alloc _).alloc _
 have hM : Blk (((w.alloc (Obj.cells s.cells 24)).alloc (Obj.cells m.cells 24)).alloc (Obj.cells Z 24)) (w.heap.size + 1) 24 m.cells:=by
  have:=(Blk.new (w.alloc (Obj.cells s.cells 24)) 24 m.cells).alloc (Obj.cells Z 24)
  simpa using this
 have hN : NamesAt (((w.alloc (Obj.cells s.cells 24)).alloc (Obj.cells m.cells 24)).alloc (Obj.cells Z 24)) (w.heap.size + 1 + 1) 18 []:=by
  have:=NamesAt.zero ((w.alloc (Obj.cells s.cells 24)).alloc (Obj.cells m.cells 24)) Z 18 HZ.out
  simpa using this
 have hbW : Below w.heap.size w (((w.alloc (Obj.cells s.cells 24)).alloc (Obj.cells m.cells 24)).alloc (Obj.cells Z 24)):=(((Below.refl _ _).alloc (Nat.le_refl _) _).alloc (by simp) _).alloc (by simp; omega) _
 generalize (((w.alloc (Obj.cells s.cells 24)).alloc (Obj.cells m.cells 24)).alloc (Obj.cells Z 24)) = W at *
 try go_frame
 go_wp2_with (refine wpList_load_row rfl 24 (.tmp 3) rfl (w.heap.size + 1) rfl 24 m.cells (0,0) _ hM Tryz.underlying24 rfl size_name ?_)
 clear hM
 refine (digits_any m W).mono ?_
 rintro en w1 ⟨A1,c1,rfl,hown,hb1⟩
 replace hX:=hX.below hb1 hX.lt
 replace hN:=hN.below hb1 hN.lt
 replace hown:=own_base hown hbW.size
 replace hbW:=hbW.trans (hb1.mono hbW.size)
 clear hb1 HZ
 have hdl:=digits_length m
 have hdle:=digits_le m
 obtain ⟨gd,od,rfl,_,_⟩:=(Rd.of_own hown).cells (by intro e; rw [List.map_eq_nil_iff] at e; rw [e] at hdl; simp at hdl)
 obtain ⟨ds,hds⟩ : ∃ ds,ds = digits m:=⟨_,rfl⟩
 rw [← hds] at hown hdl hdle
 have Hds:=Lib.hid hds; clear hds
 have Hdl:=Lib.hid hdl; clear hdl
 have Hdle:=Lib.hid hdle; clear hdle
 go_wp2_with fail
 go_loopw [12] (fun i wr => ∃ k : Nat,k≤18∧i = .int .i64 k∧NamesAt wr (w.heap.size + 1 + 1) 18 ((List.range k).map (chainAt s m))∧Blk wr w.heap.size 24 s.cells∧wr.ownsRow w.heap.size 3 1 (.slice (some ⟨gd,od,none⟩) 18 c1) 18 (ds.map N)∧Below w.heap.size w wr)
  (fun i _ => 18 - (intOf i).toNat)
 case atStart => exact ⟨0,by omega,rfl,hN,hX,hown,hbW⟩
 case round =>
  clear hN hX hown hbW
  obtain ⟨k,hk,rfl,hN,hX,hown,hb⟩:=hrel
  by_cases hlt : k < 18
  ·have e1:=mapRange_snoc (chainAt s m) k
   have E1:=Lib.hid e1; clear e1
   have E2 : Hid (((List.range k).map (chainAt s m)).length = k):=by show _ = _; simp
   generalize (List.range k).map (chainAt s m) = nl at *
   have hdk:=getD_some 0 (l:=ds) (k:=k) (by rw [Hdl.out]; exact hlt)
   have hd15:=Hdle.out _ (List.mem_of_getElem? hdk)
   obtain ⟨y,hy⟩ : ∃ y,chainAt s m k = y:=⟨_,rfl⟩
   obtain ⟨x,hx⟩ : ∃ x,startF s k = x:=⟨_,rfl⟩
   have e3 : walkF x k 0 (ds.getD k 0 - 0) = y:=by rw [← hx,← hy,Hds.out]; rfl
   generalize ds.getD k 0 = d at *
   have hdc : wr.cell? ⟨gd,od + k,none⟩ = some (N d):=by
    obtain ⟨gd',od',he,_,hc⟩:=(Rd.of_own hown).cells (by intro e; rw [e] at hown; have:=hown.1; simp at this)
    injection he with he
    injection he with h1 h2
    subst h1; subst h2
    exact hc k _ (by rw [List.getElem?_map,hdk]; rfl)
   have HS : Hid (∀ W,Calls Tryz.prog 189 #[s.val,.int .i64 (k : Int)] W (NmPost W x)):=fun W => start_core s x k W (by omega) hx
   have HW : Hid (∀ W,Calls Tryz.prog 188 #[x.val,.int .i64 (k : Int),.int .i64 0,.int .i64 (d : Int)] W (NmPost W y)):=fun W => by
    rw [← e3]; exact walk_any x k 0 d W (by omega) (by omega) (by omega)
   rw [hy] at E1
   clear hx hy e3 hdk
   have hltX:=hX.lt
   go_wp2_with (first
    | (refine wpList_load_row rfl 24 (.tmp 2) rfl w.heap.size rfl 24 s.cells (0,0) _ hX Tryz.underlying24 rfl size_name ?_)
    | (go_at_call 189; refine (HS.out _).mono ?_; rintro en w2 ⟨rfl,hb2⟩; have hN2:=hN.below hb2 hN.lt; have hX2:=hX.below hb2 hX.lt; have hown2:=own_below hown hb2 (Nat.le_refl _); have hbw2:=hb.trans (hb2.mono hb.size); clear HS)
    | (go_at_call 188; refine (HW.out _).mono ?_; rintro en w3 ⟨rfl,hb3⟩; have hN3:=hN2.below hb3 hN2.lt; have hX3:=hX2.below hb3 hX2.lt; have hown3:=own_below hown2 hb3 (Nat.le_refl _); have hbw3:=hbw2.trans (hb3.mono hbw2.size))
    | (refine wpList_store_name rfl 24 (.tmp 25) (.tmp 24) rfl (w.heap.size + 1 + 1) 18 k nl y rfl rfl hN3 E2.out hlt size_name ?_))
   intro w4 hN4 hg4 hs4
   have hX4:=hX3.kept hg4 (by simp; omega)
   have hown4:=hown3.kept hg4 (by
    obtain ⟨cur,hC,_⟩:=hN3
    exact .inr fun e => own_ne hown3 hC (by decide) e.symm)
   have hbw4 : Below w.heap.size w w4:=hbw3.grown hg4 hbw3.size (by rintro j ⟨⟩; omega)
   clear hN hX hown hb hb2 hN2 hX2 hown2 hbw2 hb3 hN3 hX3 hown3 hbw3 hg4 hs4 HW hdc
   go_wp2
   go_roundw
   case rel => exact ⟨k + 1,by omega,by go_num,by rw [E1.out]; exact hN4,hX4,hown4,hbw4⟩
   case measure => simp [intOf]; omega
  ·obtain rfl : k = 18:=by omega
   clear hX hown
   go_wp2
   go_ret
   exact ⟨_,rfl,hN,hb⟩
end
section
open Go.RowKit
attribute [local go_sem ↓] Go.wp_at_zero Go.wp_at_succ loadNm
attribute [local go_sem] runNm pickRow_some rowAt_drew rowAt_drewN
theorem nmRow {w : World} {B' b o : Nat} {l : List Nm} {k : Nat} {x : Nm} (h : Rd w B' (some ⟨b,o,none⟩) (l.flatMap nmc)) (hk : l[k]? = some x) : rowAt w b (o + k * 8) 8 = some x.cells:=by
 obtain ⟨b',o',e,_,hc⟩:=h.name hk
 injection e with e
 injection e with e1 e2
 subst e1; subst e2
 exact rowAt_of (fun j u hu => hc j u (by simpa using hu)) rfl
theorem nmTake {w : World} {B' : Nat} {A : Option Addr} {l : List Nm} (h : Rd w B' A (l.flatMap nmc)) (k : Nat) : Rd w B' A ((l.take k).flatMap nmc):=by
 have h1:=h.take (k * 8)
 have e : (l.flatMap nmc).take (k * 8) = (l.take k).flatMap nmc:=by
  clear h h1
  induction l generalizing k with
  | nil => simp
  | cons a r ih =>
   cases k with
   | zero => simp
   | succ k =>
    rw [List.flatMap_cons,List.take_succ_cons,List.flatMap_cons,← ih k,Nat.succ_mul,Nat.add_comm (k * 8) 8]
    exact List.take_length_add_append (l₁:=nmc a) (k * 8)
 rw [← e]; exact h1
theorem nmDrop {w : World} {B' b o : Nat} {l : List Nm} (h : Rd w B' (some ⟨b,o,none⟩) (l.flatMap nmc)) (k : Nat) : Rd w B' (some ⟨b,o + k * 8,none⟩) ((l.drop k).flatMap nmc):=by
 rcases h with h | ⟨b',o',e,hb,hc⟩
 ·refine .inl ?_
  have h0 : l = []:=by
   cases l with
   | nil => rfl
   | cons a r => simp at h
  rw [h0]; simp
 ·injection e with e
  injection e with e1 e2
  subst e1; subst e2
  refine .inr ⟨b,o + k * 8,rfl,hb,fun j u hu => ?_⟩
  rw [Nat.add_assoc]
  refine hc _ u ?_
  rw [← hu]
  clear hu hc
  induction l generalizing k with
  | nil => simp
  | cons a r ih =>
   cases k with
   | zero => simp
   | succ k =>
    rw [List.drop_succ_cons,← ih k,List.flatMap_cons,show (k + 1) * 8 + j = 8 + (k * 8 + j) from by omega,List.getElem?_append_right (by simp)]
    simp
theorem one_nm (x : Nm) {u : Value} (h : u ∈ x.cells.toList) : u.oneCell' = true:=by
 simp at h
 rcases h with rfl | rfl | rfl | rfl | rfl | rfl | rfl | rfl <;> rfl
set_option maxRecDepth 100000 in
set_option maxHeartbeats 2000000 in
theorem mroot_step (d n k c b o : Nat) (r1 r2 r : Nm) (w : World) (hk : k = 2 ^ d) (hn : n = 2 ^ (d + 1)) (hd : d≤40) (hc : n≤c)
  (h1 : ∀ W,Below w.heap.size w W→Calls Tryz.prog 91 #[.slice (some ⟨b,o,none⟩) k c] W (NmPost W r1))
  (h2 : ∀ W,Below w.heap.size w W→Calls Tryz.prog 91 #[.slice (some ⟨b,o + k * 8,none⟩) k (c - k)] W (NmPost W r2)) (hr : sumF (18 :: (r1.bytes ++ r2.bytes)) = r) :
  Calls Tryz.prog 91 #[.slice (some ⟨b,o,none⟩) n c] w (NmPost w r):=by
 have HS:=Lib.hid hr; clear hr
 have H1:=Lib.hid h1; clear h1
 have H2:=Lib.hid h2; clear h2
 have hk1 : 1≤k:=by rw [hk]; exact Nat.one_le_two_pow
 have hkb : k≤1099511627776:=by rw [hk]; exact Nat.pow_le_pow_right (j:=40) (by omega) hd
 have h2k : n = 2 * k:=by rw [hn,hk,Nat.pow_succ]; omega
 have hcall : ∀ W,Calls Tryz.prog 137 #[.int .i64 (n : Int)] W fun en w' => en = .returned (.int .i64 (k : Int))∧w' = W:=fun W => by
  rw [hk]; exact split_pow d n W hn hd
 have HC:=Lib.hid hcall; clear hcall
 have hne0 : ((n : Int) == 0) = false:=by rw [beq_eq_false_iff_ne]; omega
 have hne1 : ((n : Int) == 1) = false:=by rw [beq_eq_false_iff_ne]; omega
 clear hk hn
 subst h2k
 have i1 : (0 : Int)≤(k : Int):=by omega
 have i2 : (k : Int)≤(c : Int):=by omega
 have i3 : (k : Int)≤((2 * k : Nat) : Int):=by omega
 have i4 : ¬ c = k:=by omega
 have i5 : 2 * k - k = k:=by omega
 have i6 : ((2 * k : Nat) : Int)≤(c : Int):=by omega
 obtain ⟨n,hn⟩ : ∃ n,n = 2 * k:=⟨_,rfl⟩
 rw [← hn] at hne0 hne1 HC i3 i5 i6 ⊢
 clear hn
 go_enter Tryz.func91,Tryz.ntmps91
 go_upto_region 7 with ((go_at_call 137; refine (HC.out _).mono ?_; rintro en w' ⟨rfl,rfl⟩))
 have hR : Blk (w.alloc (Obj.cells zero8 24)) w.heap.size 24 zero8:=Blk.new w _ _
 have hbW : Below w.heap.size w (w.alloc (Obj.cells zero8 24)):=(Below.refl _ _).alloc (Nat.le_refl _) _
 generalize (w.alloc (Obj.cells zero8 24)) = W at *
 refine rgD (fun _ => True) (trivial) fun hHeld => ?_
 refine tkD 18 0 ?_
 go_frame
 refine tkD 19 1 ?_
 go_frame
 refine tkD 20 2 ?_
 go_frame
 refine tkD 22 4 ?_
 go_frame
 refine tkD 23 5 ?_
 go_frame
 refine tkD 24 6 ?_
 go_frame
 refine rd1 3 fun K hK => ?_
 go_simp
 refine (H1.out _ hbW.drew).mono ?_; rintro en w2 ⟨rfl,hb2⟩; have hbx2:=hbW.drew.trans (hb2.mono hbW.size); have hR2:=hR.drew.below hb2 hR.drew.lt
 go_wp2_with fail
 refine hK.out _ _ (trivial) (fun hHeld => ?_)
 clear hK K
 try go_frame
 refine rd1 7 fun K hK => ?_
 go_simp
 refine (H2.out _ hbx2).mono ?_; rintro en w3 ⟨rfl,hb3⟩; have hbx3:=hbx2.trans (hb3.mono hbx2.size); have hR3:=hR2.below hb3 hR2.lt
 go_wp2_with fail
 refine hK.out _ _ (trivial) (fun hHeld => ?_)
 clear hK K
 try go_frame
 refine rd1 8 fun K hK => ?_
 go_simp
 refine (pair_core 18 r1 r2 r _ HS.out).mono ?_; rintro en w4 ⟨rfl,hb4⟩; have hbx4:=hbx3.trans (hb4.mono hbx3.size); have hR4:=hR3.below hb4 hR3.lt
 go_wp2_with fail
 refine hK.out _ _ (trivial) (fun hHeld => ?_)
 clear hK K
 try go_frame
 refine rd1 9 fun K hK => ?_
 rw [if_pos (by rfl)]
 refine wp_store_blk 24 (.tmp 2) (.tmp 26) (by rfl) w.heap.size r.cells (by rfl) (by rfl) 24 zero8 hR4 rfl size_name ?st1 (by rfl) ?_
 case st1 => exact fun u hu => one_nm r hu
 intro w5 hR5 hg5 hs5
 refine hK.out _ _ (trivial) (fun hHeld => ?_)
 clear hK K
 try go_frame
 refine dnD ?_
 have hbw5 : Below w.heap.size w w5:=hbx4.grown hg5 hbx4.size (by rintro j ⟨⟩; omega)
 go_wp2
 exact bodyPost_ret (results_cell_row (g:=w.heap.size) (cs:=r.cells) rfl _ _ _ _ _ rfl hR5 Tryz.underlying24 rfl size_name) rfl ⟨rfl,hbw5⟩
set_option maxRecDepth 100000 in
set_option maxHeartbeats 1000000 in
theorem mroot_zero (x r : Nm) (b o c : Nat) (w : World) (hx : rowAt w b o 8 = some x.cells) (hb : b < w.heap.size) (hr : sumF (17 :: x.bytes) = r) :
  Calls Tryz.prog 91 #[.slice (some ⟨b,o,none⟩) 1 c] w (NmPost w r):=by
 have HS:=Lib.hid hr; clear hr
 have hx2 : rowAt (w.alloc (Obj.cells zero8 24)) b o 8 = some x.cells:=rowAt_below hx ((Below.refl _ _).alloc (Nat.le_refl _) _) hb
 clear hx
 go_enter Tryz.func91,Tryz.ntmps91
 go_upto_region 5 with fail
 have hR : Blk (w.alloc (Obj.cells zero8 24)) w.heap.size 24 zero8:=Blk.new w _ _
 have hbW : Below w.heap.size w (w.alloc (Obj.cells zero8 24)):=(Below.refl _ _).alloc (Nat.le_refl _) _
 generalize (w.alloc (Obj.cells zero8 24)) = W at *
 go_wp2_with (first
  | (go_at_call 136; refine (single_core x r _ HS.out).mono ?_; rintro en w5 ⟨rfl,hb5⟩; have hR5:=hR.below hb5 hR.lt; have hbw5:=hbW.trans (hb5.mono hbW.size))
  | (refine wpList_store_blk rfl 24 (.tmp 2) (.tmp 14) rfl w.heap.size _ rfl rfl 24 _ hR5 rfl size_name ?s2 ?_))
 case s2 => exact ⟨rfl,rfl,rfl,rfl,rfl,rfl,rfl,rfl⟩
 intro w6 hR6 hg6 hs6
 have hbw6 : Below w.heap.size w w6:=hbw5.grown hg6 hbw5.size (by rintro j ⟨⟩; omega)
 go_wp2
 exact bodyPost_ret (results_cell_row (g:=w.heap.size) rfl _ _ _ _ _ _ rfl hR6 Tryz.underlying24 rfl size_name) rfl ⟨rfl,hbw6⟩
theorem rd_addr {w : World} {B' : Nat} {A : Option Addr} {l : List Nm} (h : Rd w B' A (l.flatMap nmc)) (hl : 0 < l.length) : ∃ b o,A = some ⟨b,o,none⟩∧b < B':=by
 obtain ⟨b,o,e,hb,_⟩:=h.cells (by intro e; have:=flat_length nmc 8 l (nmc_len l); rw [e] at this; simp at this; omega)
 exact ⟨b,o,e,hb⟩
theorem mroot_any : ∀ (d : Nat) (l : List Nm) (A : Option Addr) (n c : Nat) (w : World),l.length = n→n = 2 ^ d→d≤40→n≤c→c≤maxLen→Rd w w.heap.size A (l.flatMap nmc)→Calls Tryz.prog 91 #[.slice A n c] w (NmPost w (rootF d l))
 | 0,l,A,n,c,w,hl,hn,_,_,_,hr => by
  obtain rfl : n = 1:=hn
  obtain ⟨b,o,rfl,hb⟩:=rd_addr hr (by omega)
  obtain ⟨x,hx⟩ : ∃ x,l[0]? = some x:=⟨_,List.getElem?_eq_getElem (by omega)⟩
  have e : rootF 0 l = sumF (17 :: x.bytes):=by rw [rootF,List.getD_eq_getElem?_getD,hx]; rfl
  rw [e]
  exact mroot_zero x _ b o c w (by simpa using nmRow hr (k:=0) hx) hb rfl
 | d + 1,l,A,n,c,w,hl,hn,hd,hc,hm,hr => by
  have h2 : n = 2 * 2 ^ d:=by rw [hn,Nat.pow_succ]; omega
  have hp : 1≤2 ^ d:=Nat.one_le_two_pow
  obtain ⟨b,o,rfl,hb⟩:=rd_addr hr (by omega)
  exact mroot_step d n (2 ^ d) c b o _ _ _ w rfl hn (by omega) hc
   (fun W hW => mroot_any d (l.take (2 ^ d)) _ _ c W (by rw [List.length_take]; omega) rfl (by omega) (by omega) hm (nmTake ((hr.below hW).more hW.size) _))
   (fun W hW => mroot_any d (l.drop (2 ^ d)) _ _ (c - 2 ^ d) W (by rw [List.length_drop]; omega) rfl (by omega) (by omega) (by omega) (nmDrop ((hr.below hW).more hW.size) _)) rfl
end
end Go.Proofs.YtadllffeoibelaaGreat
