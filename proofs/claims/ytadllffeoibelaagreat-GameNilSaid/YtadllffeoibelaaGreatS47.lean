/-
  What these parts of the proof come to, functions walked and plain laws: GmProp, ActP. No condition.
-/
import Derived.Test.YtadllffeoibelaaGreatS45
import Derived.Test.YtadllffeoibelaaGreatS9
import Derived.Test.YtadllffeoibelaaGreatS46
import Derived.Test.YtadllffeoibelaaGreatS11
namespace Go.Proofs.YtadllffeoibelaaGreat
section
open Go.RowKit
attribute [local go_sem ↓] Go.wp_at_zero Go.wp_at_succ loadNm loadVt loadSg loadEv
attribute [local go_sem] runNm runVt runSg runEv pickRow_some rowAt_drew rowAt_drewN
def prpN (D : List Vt) : List Nm:=(D.filter fun x => decide (x.kind = 1)).map (·.value)
def prpO (par : Nm) (m : Nat) (D : List Vt) : Bool:=D.any fun x => decide (x.kind = 1) && (decide (x.parent = par) && (decide (x.signer = (m : Int)) && decide (x.slot = (m : Int))))
theorem prpN_snoc (D : List Vt) (x : Vt) : prpN (D ++ [x]) = if x.kind = 1 then prpN D ++ [x.value] else prpN D:=by
 unfold prpN
 rw [List.filter_append,List.map_append]
 by_cases h : x.kind = 1 <;> simp [h]
theorem prpO_snoc (par : Nm) (m : Nat) (D : List Vt) (x : Vt) : prpO par m (D ++ [x]) = (prpO par m D || (decide (x.kind = 1) && (decide (x.parent = par) && (decide (x.signer = (m : Int)) && decide (x.slot = (m : Int)))))):=by
 unfold prpO
 rw [List.any_append]
 simp
def PrpPost (D : List Vt) (par : Nm) (m : Nat) (w : World) (e : Ending) (w' : World) : Prop :=
 ∃ (v : Value),e = .returned (.tuple #[v,.bool (prpO par m D)])∧w'.ownsRow w.heap.size 24 8 v (prpN D).length ((prpN D).flatMap nmc)∧Below w.heap.size w w'
def PrpRel (D : List Vt) (par : Nm) (m : Nat) (w : World) (v ov iv : Value) (wr : World) : Prop :=
 ∃ (i : Nat) (L : List Nm) (d : Bool),iv = .int .i64 (i : Int)∧ov = .bool d∧i≤D.length∧L.length≤i∧L = prpN (D.take i)∧d = prpO par m (D.take i)∧wr.ownsRow w.heap.size 24 8 v L.length (L.flatMap nmc)∧Below w.heap.size w wr
set_option maxRecDepth 100000 in
set_option maxHeartbeats 8000000 in
theorem proposed_any {Bs g i0 b : Nat} {w : World} {G : GmS} {P : PrS} (h : GmAt Bs w g G) (hi : G.ps[i0]? = some (b,P)) (hsm : P.L.length≤1000000) :
  Calls Tryz.prog 73 #[ptrV g,ptrV b] w (PrpPost (votF (P.L.map Sg.vs)) G.par P.mem w):=by
 have hP:=(h.prs _ _ hi).1
 have HVs:=Lib.hid (hvotes_any hP hsm)
 have HS : Hid (∀ V,Below w.heap.size w V→rowAt V g 2 8 = some G.par.cells∧V.cell? ⟨b,1,none⟩ = some (.int .i64 (P.mem : Int))):=fun V hV => ⟨(h.below hV).row_par,((h.below hV).prs _ _ hi).1.blk.cell 1⟩
 obtain ⟨D,hD⟩ : ∃ D,D = votF (P.L.map Sg.vs):=⟨_,rfl⟩
 have hD6 : D.length≤1000000:=by
  have:=canF_len (P.L.map Sg.vs)
  rw [List.length_map] at this
  rw [hD]
  unfold votF
  rw [List.length_map]
  omega
 rw [← hD] at HVs ⊢
 obtain ⟨par,hpar⟩ : ∃ par,par = G.par:=⟨_,rfl⟩
 obtain ⟨mm,hmm⟩ : ∃ mm,mm = P.mem:=⟨_,rfl⟩
 rw [← hpar,← hmm] at HS ⊢
 clear h hi hP hD hsm hpar hmm
 go_enter Tryz.func73,Tryz.ntmps73
 go_wp2_with (go_at_call 44; refine HVs.out.mono ?_; rintro en w2 ⟨v2,rfl,hb2,hown2⟩; obtain ⟨A2,c2,rfl,hR2⟩:=own_shape hown2; have HR2:=Lib.hid hR2; obtain ⟨n,hn⟩ : ∃ n,D.length = n:=⟨_,rfl⟩; rw [hn] at hD6 ⊢; have HN:=Lib.hid hn; clear hown2 hR2 hn)
 go_loopw [6,7,15] (fun v ov iv wr => PrpRel D par mm w2 v ov iv wr) (fun _ _ iv _ => n - (intOf iv).toNat)
 case atStart => exact ⟨0,[],false,rfl,rfl,Nat.zero_le _,Nat.zero_le _,rfl,rfl,⟨by simp,.inl ⟨rfl,rfl⟩⟩,Below.refl _ _⟩
 case round =>
  obtain ⟨i,L,d,rfl,rfl,hin,hLi,hL,hd,hown,hbw⟩:=hrel
  rw [HN.out] at hin
  have HL:=Lib.hid hL
  have HDd:=Lib.hid hd
  have HOwn:=Lib.hid hown
  have hL6 : L.length≤1000000:=by omega
  have hbw0:=hb2.trans (hbw.mono hb2.size)
  clear hL hd hown
  by_cases hi : i < n
  ·have di : decide ((i : Int) < (n : Int)) = true:=by simp; omega
   obtain ⟨x,hx⟩ : ∃ x,D[i]? = some x:=⟨_,List.getElem?_eq_getElem (by rw [HN.out]; exact hi)⟩
   obtain ⟨b0,o,rfl,hb,hcell⟩:=HR2.out.cells (by intro e; have:=flat_length vtc 22 D (vtc_len D); rw [e,HN.out] at this; simp at this; omega)
   clear hcell
   have x1 : rowAt wr b0 (o + i * 22) 22 = some x.cells:=(HR2.out.below hbw).voteRow hx
   have hNx : prpN (D.take (i + 1)) = if x.kind = 1 then L ++ [x.value] else L:=by rw [List.take_add_one,hx,Option.toList_some,prpN_snoc,← HL.out]
   have hOx : prpO par mm (D.take (i + 1)) = (d || (decide (x.kind = 1) && (decide (x.parent = par) && (decide (x.signer = (mm : Int)) && decide (x.slot = (mm : Int)))))):=by rw [List.take_add_one,hx,Option.toList_some,prpO_snoc,← HDd.out]
   have HNx:=Lib.hid hNx
   have HOx:=Lib.hid hOx
   clear hx hNx hOx
   go_upto_region 6 with (refine wpList_store_blk rfl 46 (.tmp 9) (.tmp 18) rfl wr.heap.size x.cells rfl rfl 46 zeroV.cells (Blk.new wr _ _) (by rfl) (by kernel_rfl) (fun u hu => one_vt x hu) ?_; intro w4 hB4 hg4 hsz4)
   have HOwn4 : Hid (w4.ownsRow w2.heap.size 24 8 u6 L.length (L.flatMap nmc)):=own_kept (HOwn.out.alloc _) hg4 (fun k hk => by
    injection hk with hk
    subst hk
    right
    intro e
    have:=(HOwn.out.lt _ e).2
    omega)
   have hbw4 : Below w2.heap.size w2 w4:=(hbw.alloc hbw.size _).grown hg4 (Nat.le_trans hbw.size (by simp)) (fun k hk => by injection hk with hk; subst hk; exact hbw.size)
   obtain ⟨z,hz⟩ : ∃ z,z = wr.heap.size:=⟨_,rfl⟩
   rw [← hz] at hB4 ⊢
   have x4 : w4.cell? ⟨z,0,none⟩ = some (.int .i64 x.kind):=hB4.cell 0
   have x5 : rowAt w4 z 14 8 = some x.value.cells:=x.row_value hB4
   have HZ4:=Lib.hid hB4
   clear hB4 hg4 hsz4 x1 hz HOwn hbw hbw0
   try go_frame
   by_cases h1 : x.kind = 1
   rotate_left
   ·have e1 : (x.kind == 1) = false:=by simpa using h1
    have HNx' : Hid (L = prpN (D.take (i + 1))):=by unfold Hid; rw [HNx.out,if_neg h1]
    have HOx' : Hid (d = prpO par mm (D.take (i + 1))):=by unfold Hid; rw [HOx.out,decide_eq_false h1]; simp
    clear h1
    go_wp2
    go_roundw
    case rel => exact ⟨i + 1,L,d,by go_num,rfl,by rw [HN.out]; omega,by omega,HNx'.out,HOx'.out,HOwn4.out,hbw4⟩
    case measure => simp [intOf]; omega
   have e1 : (x.kind == 1) = true:=by rw [h1]; rfl
   have HNx' : Hid (L ++ [x.value] = prpN (D.take (i + 1))):=by unfold Hid; rw [HNx.out,if_pos h1]
   have HOx' : Hid (prpO par mm (D.take (i + 1)) = (d || (decide (x.parent = par) && (decide (x.signer = (mm : Int)) && decide (x.slot = (mm : Int)))))):=by unfold Hid; rw [HOx.out,decide_eq_true h1,Bool.true_and]
   clear h1 HNx HOx
   go_wp2_with ((first
    | (refine wpList_build1 rfl 75 24 (.tmp 24) rfl x.value.cells rfl Tryz.underlying75 (by kernel_rfl) (by decide) (by decide) ?_)
    | (at_builtin; refine wpList_app rfl (.tmp 22) (.tmp 25) _ rfl w2.heap.size 24 (Nm.val ⟨0,0,0,0,0,0,0,0⟩) 8 8 Tryz.underlying75 info_name rfl (by decide) u6 L.length (L.flatMap nmc) rfl ?r0 (w4.heap.size + 1) (some ⟨w4.heap.size,0,none⟩) 1 1 (nmc x.value) rfl ?r1 ?r2 ?r3 ?r4 ?r5 ?r6 ?_)))
   case r0 => exact HOwn4.out.alloc _
   case r1 => rfl
   case r2 => exact Rd.mk (by omega) (fun j u hu => by rw [Nat.zero_add,(Blk.new w4 _ _).cell]; simpa using hu)
   case r3 => exact fun u hu => one_nmc x.value hu
   case r4 => omega
   case r5 => unfold maxLen; omega
   case r6 => have:=hbw4.size; simp; omega
   intro v7 w7 hown7 hg7 hat7
   have hbw7 : Below w2.heap.size w2 w7:=below_own (hbw4.alloc hbw4.size _) (HOwn4.out.alloc _) hg7
   have HZ7 : Hid (Blk w7 z 46 x.cells):=(HZ4.out.alloc _).kept hg7 (own_ne HOwn4.out HZ4.out (by decide))
   have HOwn7 : Hid (w7.ownsRow w2.heap.size 24 8 v7 (L ++ [x.value]).length ((L ++ [x.value]).flatMap nmc)):=by
    unfold Hid
    rw [List.length_append,List.flatMap_append]
    simpa using hown7
   have hbx7:=hb2.trans (hbw7.mono hb2.size)
   have HX : Hid (rowAt w7.drew z 6 8 = some x.parent.cells∧w7.drew.cell? ⟨z,4,none⟩ = some (.int .i64 x.signer)∧w7.drew.cell? ⟨z,1,none⟩ = some (.int .i64 x.slot)∧rowAt w7.drew g 2 8 = some par.cells∧w7.drew.cell? ⟨b,1,none⟩ = some (.int .i64 (mm : Int))) :=
    ⟨x.row_parent HZ7.out,HZ7.out.cell 4,HZ7.out.cell 1,(HS.out _ hbx7).1,(HS.out _ hbx7).2⟩
   have hbd7 : Below w2.heap.size w2 w7.drew:=hbw7.drew
   have HOd7 : Hid (w7.drew.ownsRow w2.heap.size 24 8 v7 (L ++ [x.value]).length ((L ++ [x.value]).flatMap nmc)):=HOwn7.out
   have hLx : (L ++ [x.value]).length≤i + 1:=by rw [List.length_append,List.length_singleton]; omega
   clear hown7 hg7 hat7 x4 x5 HOwn4 HOwn7
   obtain ⟨dP,hdP⟩ : ∃ d,d = decide (x.parent = par):=⟨_,rfl⟩
   obtain ⟨dS,hdS⟩ : ∃ d,d = decide (x.signer = (mm : Int)):=⟨_,rfl⟩
   obtain ⟨dL,hdL⟩ : ∃ d,d = decide (x.slot = (mm : Int)):=⟨_,rfl⟩
   have eP : ∀ W,(Op.equalIn 10000 24 (.agg x.parent.cells) (.agg par.cells)).run Tryz.prog W = .ok dP W:=fun W => by rw [hdP]; exact eqNm x.parent par W 9998
   have eS : (x.signer == (mm : Int)) = dS:=by rw [hdS]; rfl
   have eL : (x.slot == (mm : Int)) = dL:=by rw [hdL]; rfl
   rw [← hdP,← hdS,← hdL] at HOx'
   clear hdP hdS hdL
   go_upto_region 8 with fail
   cases d with
   | true =>
    refine rgD (fun V => rowAt V z 6 8 = some x.parent.cells∧V.cell? ⟨z,4,none⟩ = some (.int .i64 x.signer)∧V.cell? ⟨z,1,none⟩ = some (.int .i64 x.slot)∧rowAt V g 2 8 = some par.cells∧V.cell? ⟨b,1,none⟩ = some (.int .i64 (mm : Int))) (HX.out) fun hHeld => ?_
    refine tkD 27 0 ?_
    go_frame
    refine tkD 28 1 ?_
    go_frame
    refine skD 29 2 ?_
    go_frame
    refine skD 30 3 ?_
    go_frame
    refine skD 31 4 ?_
    go_frame
    refine skD 32 5 ?_
    go_frame
    refine skD 33 6 ?_
    go_frame
    refine skD 34 7 ?_
    go_frame
    refine skD 35 8 ?_
    go_frame
    refine skD 36 9 ?_
    go_frame
    refine skD 37 10 ?_
    go_frame
    refine skD 38 11 ?_
    go_frame
    refine skD 39 12 ?_
    go_frame
    refine skD 40 13 ?_
    go_frame
    refine skD 41 14 ?_
    go_frame
    refine skD 42 15 ?_
    go_frame
    refine skD 43 16 ?_
    go_frame
    refine skD 44 17 ?_
    go_frame
    refine skD 45 18 ?_
    go_frame
    refine skD 46 19 ?_
    go_frame
    refine skD 47 20 ?_
    go_frame
    refine skD 48 21 ?_
    go_frame
    refine skD 49 22 ?_
    go_frame
    refine skD 50 23 ?_
    go_frame
    refine skD 51 24 ?_
    go_frame
    refine skD 52 25 ?_
    go_frame
    refine skD 53 26 ?_
    go_frame
    refine tkD 54 27 ?_
    go_frame
    refine tkD 7 28 ?_
    go_frame
    refine dnD ?_
    go_wp2
    go_roundw
    case rel => exact ⟨i + 1,_,true,by go_num,rfl,by rw [HN.out]; omega,hLx,HNx'.out,by rw [HOx'.out]; simp,HOd7.out,hbd7⟩
    case measure => simp [intOf]; omega
   | false =>
    cases dP with
    | false =>
     refine rgD (fun V => rowAt V z 6 8 = some x.parent.cells∧V.cell? ⟨z,4,none⟩ = some (.int .i64 x.signer)∧V.cell? ⟨z,1,none⟩ = some (.int .i64 x.slot)∧rowAt V g 2 8 = some par.cells∧V.cell? ⟨b,1,none⟩ = some (.int .i64 (mm : Int))) (HX.out) fun hHeld => ?_
     refine tkD 27 0 ?_
     go_frame
     refine tkD 28 1 ?_
     go_frame
     refine tkD 29 2 ?_
     go_frame
     refine tkD 30 3 ?_
     go_frame
     refine tkD 31 4 ?_
     go_frame
     refine tkD 32 5 ?_
     go_frame
     refine tkD 33 6 ?_
     go_frame
     refine tkD 34 7 ?_
     go_frame
     refine tkD 35 8 ?_
     go_frame
     refine tkD 36 9 ?_
     go_frame
     refine skD 37 10 ?_
     go_frame
     refine skD 38 11 ?_
     go_frame
     refine skD 39 12 ?_
     go_frame
     refine skD 40 13 ?_
     go_frame
     refine skD 41 14 ?_
     go_frame
     refine skD 42 15 ?_
     go_frame
     refine skD 43 16 ?_
     go_frame
     refine tkD 44 17 ?_
     go_frame
     refine tkD 45 18 ?_
     go_frame
     refine skD 46 19 ?_
     go_frame
     refine skD 47 20 ?_
     go_frame
     refine skD 48 21 ?_
     go_frame
     refine skD 49 22 ?_
     go_frame
     refine skD 50 23 ?_
     go_frame
     refine skD 51 24 ?_
     go_frame
     refine skD 52 25 ?_
     go_frame
     refine tkD 53 26 ?_
     go_frame
     refine tkD 54 27 ?_
     go_frame
     refine tkD 7 28 ?_
     go_frame
     refine dnD ?_
     go_wp2
     go_roundw
     case rel => exact ⟨i + 1,_,false,by go_num,rfl,by rw [HN.out]; omega,hLx,HNx'.out,by rw [HOx'.out]; simp,HOd7.out,hbd7⟩
     case measure => simp [intOf]; omega
    | true =>
     cases dS with
     | false =>
      refine rgD (fun V => rowAt V z 6 8 = some x.parent.cells∧V.cell? ⟨z,4,none⟩ = some (.int .i64 x.signer)∧V.cell? ⟨z,1,none⟩ = some (.int .i64 x.slot)∧rowAt V g 2 8 = some par.cells∧V.cell? ⟨b,1,none⟩ = some (.int .i64 (mm : Int))) (HX.out) fun hHeld => ?_
      refine tkD 27 0 ?_
      go_frame
      refine tkD 28 1 ?_
      go_frame
      refine tkD 29 2 ?_
      go_frame
      refine tkD 30 3 ?_
      go_frame
      refine tkD 31 4 ?_
      go_frame
      refine tkD 32 5 ?_
      go_frame
      refine tkD 33 6 ?_
      go_frame
      refine tkD 34 7 ?_
      go_frame
      refine tkD 35 8 ?_
      go_frame
      refine tkD 36 9 ?_
      go_frame
      refine tkD 37 10 ?_
      go_frame
      refine tkD 38 11 ?_
      go_frame
      refine tkD 39 12 ?_
      go_frame
      refine tkD 40 13 ?_
      go_frame
      refine tkD 41 14 ?_
      go_frame
      refine tkD 42 15 ?_
      go_frame
      refine tkD 43 16 ?_
      go_frame
      refine tkD 44 17 ?_
      go_frame
      refine tkD 45 18 ?_
      go_frame
      refine skD 46 19 ?_
      go_frame
      refine skD 47 20 ?_
      go_frame
      refine skD 48 21 ?_
      go_frame
      refine skD 49 22 ?_
      go_frame
      refine skD 50 23 ?_
      go_frame
      refine skD 51 24 ?_
      go_frame
      refine skD 52 25 ?_
      go_frame
      refine tkD 53 26 ?_
      go_frame
      refine tkD 54 27 ?_
      go_frame
      refine tkD 7 28 ?_
      go_frame
      refine dnD ?_
      go_wp2
      go_roundw
      case rel => exact ⟨i + 1,_,false,by go_num,rfl,by rw [HN.out]; omega,hLx,HNx'.out,by rw [HOx'.out]; simp,HOd7.out,hbd7⟩
      case measure => simp [intOf]; omega
     | true =>
      refine rgD (fun V => rowAt V z 6 8 = some x.parent.cells∧V.cell? ⟨z,4,none⟩ = some (.int .i64 x.signer)∧V.cell? ⟨z,1,none⟩ = some (.int .i64 x.slot)∧rowAt V g 2 8 = some par.cells∧V.cell? ⟨b,1,none⟩ = some (.int .i64 (mm : Int))) (HX.out) fun hHeld => ?_
      refine tkD 27 0 ?_
      go_frame
      refine tkD 28 1 ?_
      go_frame
      refine tkD 29 2 ?_
      go_frame
      refine tkD 30 3 ?_
      go_frame
      refine tkD 31 4 ?_
      go_frame
      refine tkD 32 5 ?_
      go_frame
      refine tkD 33 6 ?_
      go_frame
      refine tkD 34 7 ?_
      go_frame
      refine tkD 35 8 ?_
      go_frame
      refine tkD 36 9 ?_
      go_frame
      refine tkD 37 10 ?_
      go_frame
      refine tkD 38 11 ?_
      go_frame
      refine tkD 39 12 ?_
      go_frame
      refine tkD 40 13 ?_
      go_frame
      refine tkD 41 14 ?_
      go_frame
      refine tkD 42 15 ?_
      go_frame
      refine tkD 43 16 ?_
      go_frame
      refine tkD 44 17 ?_
      go_frame
      refine tkD 45 18 ?_
      go_frame
      refine tkD 46 19 ?_
      go_frame
      refine tkD 47 20 ?_
      go_frame
      refine tkD 48 21 ?_
      go_frame
      refine tkD 49 22 ?_
      go_frame
      refine tkD 50 23 ?_
      go_frame
      refine tkD 51 24 ?_
      go_frame
      refine tkD 52 25 ?_
      go_frame
      refine tkD 53 26 ?_
      go_frame
      refine tkD 54 27 ?_
      go_frame
      refine tkD 7 28 ?_
      go_frame
      refine dnD ?_
      go_wp2
      go_roundw
      case rel => exact ⟨i + 1,_,dL,by go_num,rfl,by rw [HN.out]; omega,hLx,HNx'.out,by rw [HOx'.out]; simp,HOd7.out,hbd7⟩
      case measure => simp [intOf]; omega
  ·have di : decide ((i : Int) < (n : Int)) = false:=by simp; omega
   have hLa : L = prpN D:=by rw [HL.out,List.take_of_length_le (by rw [HN.out]; omega)]
   have hDa : d = prpO par mm D:=by rw [HDd.out,List.take_of_length_le (by rw [HN.out]; omega)]
   have HLa:=Lib.hid hLa
   have HDa:=Lib.hid hDa
   clear hLa hDa HL HDd
   go_wp2
   go_ret2
   exact ⟨u6,by first | rfl | (rw [HDa.out]; rfl) | simp [HDa.out],by rw [← HLa.out]; exact own_base HOwn.out hb2.size,hbw0⟩
end
section

abbrev PrS.D (P : PrS) : List Vt:=votF (P.L.map Sg.vs)
abbrev propV (par : Nm) (mem : Nat) (pay : Nm) : Vt:=⟨1,(mem : Int),0,1,(mem : Int),0,par,pay⟩
abbrev GmS.actd (G : GmS) (i b : Nat) (P : PrS) : GmS:=G.setP i b { P with acts:=P.acts + 1 }
def SgnR (i : Nat) (v : Vt) (G G' : GmS) : Prop:=∃ (b : Nat) (P : PrS) (k : KyS) (sv0 : Value) (sl : List Vt) (va vs : Value) (L : List Sg),
 G.ps[i]? = some (b,P)∧G.ks[P.mem]? = some k∧G.sg[P.mem]? = some (sv0,sl)∧(ValidP v∧P.leaf < 1024)∧L.map Sg.vs = canF (P.L.map Sg.vs ++ [(v,sigF k.seed P.leaf (nameF v))])∧G' = (G.setP i b (P.signd va L)).setS P.mem vs (sl ++ [v])
def DueA (i : Nat) (G : GmS) (o : Option Vt) : Prop:=∃ (b : Nat) (P : PrS),G.ps[i]? = some (b,P)∧SNextR G.M G.par (P.mem : Int) P.D (prpN P.D) (decide (2 < P.acts)) o
structure ActK (i b m0 : Nat) (a0 : Int) (p0 : Nm) (M0 : Int) (y0 : Nm) (ks0 : List KyS) (c : Nat) (G : GmS) (P : PrS) : Prop where
 hi : G.ps[i]? = some (b,P)
 mem : P.mem = m0
 acts : P.acts = a0
 pay : P.pay = y0
 par : G.par = p0
 M : G.M = M0
 ks : G.ks = ks0
 sg : ∃ x : Value × List Vt,G.sg[m0]? = some x∧x.2.length≤c + P.leaf
 len : P.L.length≤c + P.leaf
 val : ∀ x ∈ P.L,ValidP x.vote
 lf : P.leaf≤1024
theorem votF_mem (l : List VS) (x : Vt) : x ∈ votF l ↔ x ∈ l.map (·.1):=by
 unfold votF
 rw [List.mem_map,List.mem_map]
 constructor
 ·rintro ⟨y,hy,rfl⟩; exact ⟨y,(canF_is l).sub y hy,rfl⟩
 ·rintro ⟨y,hy,rfl⟩
  obtain ⟨z,hz,e,_⟩:=(canF_is l).dom y hy
  exact ⟨z,hz,e⟩
theorem PrS.D_valid {P : PrS} (h : ∀ x ∈ P.L,ValidP x.vote) : ∀ v ∈ P.D,ValidP v:=fun v hv => by
 have:=(votF_mem (P.L.map Sg.vs) v).1 hv
 simp only [List.map_map,List.mem_map,Function.comp_apply] at this
 obtain ⟨x,hx,rfl⟩:=this
 exact h x hx
theorem SNextR.due {M : Int} {p : Nm} {f : Int} {l : List Vt} {H : List Nm} {wt : Bool} {v : Vt} (hl : ∀ v ∈ l,ValidP v) (h : SNextR M p f l H wt (some v)) : ∃ s,s≤9∧DueP s p f (owF s p f l) v:=by
 obtain ⟨s,hs,_,h⟩:=h
 exact ⟨s,hs,h.due hl hs⟩
theorem SgnR.actK {i b mem c : Nat} {acts M : Int} {par pay : Nm} {ks : List KyS} {G G' : GmS} {P : PrS} {v : Vt} (h : SgnR i v G G') (k : ActK i b mem acts par M pay ks c G P) : ∃ P',ActK i b mem acts par M pay ks c G' P'∧P'.leaf = P.leaf + 1∧P.leaf < 1024:=by
 obtain ⟨b',P0,k0,sv0,sl,va,vs,L,h1,h2,h3,h4,h5,rfl⟩:=h
 rw [k.hi] at h1
 injection h1 with h1
 injection h1 with h1 h1'
 subst h1
 subst h1'
 have hil:=(List.getElem?_eq_some_iff.1 k.hi).1
 have hml:=(List.getElem?_eq_some_iff.1 h3).1
 have hlen : L.length = (L.map Sg.vs).length:=by rw [List.length_map]
 have hcl:=canF_len (P.L.map Sg.vs ++ [(v,sigF k0.seed P.leaf (nameF v))])
 rw [List.length_append,List.length_map] at hcl
 refine ⟨P.signd va L,⟨List.getElem?_set_self hil,k.mem,k.acts,k.pay,k.par,k.M,k.ks,?_,?_,fun x hx => ?_,by have:=h4.2; show P.leaf + 1≤1024; omega⟩,rfl,h4.2⟩
 ·obtain ⟨x,hx,hx2⟩:=k.sg
  rw [← k.mem,h3] at hx
  injection hx with hx
  subst hx
  refine ⟨(vs,sl ++ [v]),by rw [← k.mem]; exact List.getElem?_set_self hml,?_⟩
  show (sl ++ [v]).length≤c + (P.leaf + 1)
  have : sl.length≤c + P.leaf:=hx2
  simp; omega
 ·show L.length≤c + (P.leaf + 1)
  rw [hlen,h5]
  have:=k.len
  simp at hcl
  omega
 ·have hm : x.vs ∈ L.map Sg.vs:=List.mem_map_of_mem hx
  rw [h5] at hm
  have:=(canF_is _).sub _ hm
  rcases List.mem_append.1 this with h | h
  ·obtain ⟨y,hy,he⟩:=List.mem_map.1 h
   have : y.vote = x.vote:=congrArg Prod.fst he
   exact this ▸ k.val y hy
  ·have : x.vote = v:=congrArg Prod.fst (List.mem_singleton.1 h)
   exact this ▸ h4.1
end
end Go.Proofs.YtadllffeoibelaaGreat
