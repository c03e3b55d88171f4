/-
  What these parts of the proof come to, functions walked and plain laws: Asc2. No condition.
-/
import Derived.Test.YtadllffeoibelaaGreatS19
import Derived.Test.YtadllffeoibelaaGreatS9
import Derived.Test.YtadllffeoibelaaGreatS22
import Derived.RangeFuncBox
import Derived.Deep.DeepCutAuto
namespace Go.Proofs.YtadllffeoibelaaGreat
section
open Go.RowKit Go.Shelf
attribute [local go_sem ↓] Go.wp_at_zero Go.wp_at_succ loadNm loadVt loadSg loadEv
attribute [local go_sem] runNm runVt runSg runEv pickRow_some rowAt_drew rowAt_drewN
noncomputable def vtT : TypeInfo:=(Tryz.prog.info? 56).get (by kernel_rfl)
noncomputable def vtE : TypeInfo:=(Tryz.prog.info? 46).get (by kernel_rfl)
theorem vtE_k (n : Nat) (h : 2≤n) : Lib.swapperK n vtE 25 = 9:=by
 have a : vtE.hasPointers = false:=by kernel_rfl
 have b : vtE.bytes = 64:=by kernel_rfl
 have c0 : (n == 0) = false:=by simp; omega
 have c1 : (n == 1) = false:=by simp; omega
 unfold Lib.swapperK
 rw [a,b,c0,c1]; rfl
theorem vtT_is : Tryz.prog.info? 56 = some vtT:=by kernel_rfl
theorem vtE_is : Tryz.prog.info? 46 = some vtE:=by kernel_rfl
theorem vtT_desc : vtT.desc = .slice 46:=by kernel_rfl
theorem vtE_size : vtE.size = 22:=by kernel_rfl
theorem slT_vote : SlT 56 46 22 :=
 ⟨⟨vtT,vtT_is,vtT_desc⟩,by kernel_rfl,⟨vtE,vtE_is,vtE_size,vtE_k⟩,fun _ => by kernel_rfl,fun _ => by kernel_rfl⟩
instance : Inhabited Vt:=⟨zeroV⟩
theorem enters_asc (args : Array Value) (W : World) : (callFunc 221 args).run Tryz.prog W = .ok (.enter 221 args) W:=enters_of Tryz.func221 (by kernel_rfl) rfl args W
theorem own_tail {w : World} {b n : Nat} {e : TypeId} {v : Value} {m : Nat} {xs : List Value} (h : w.ownsRow b e m v n xs) : (v = .slice none 0 0∧n = 0∧xs = [])∨∃ g cap T,v = .slice (some ⟨g,0,none⟩) n cap∧b≤g∧Blk w g e (xs ++ T).toArray∧n≤cap:=by
 rcases h.2 with ⟨hv,h0⟩ | ⟨g,cap,cur,hv,hg,hh,h1,_,_,ht⟩
 ·exact .inl ⟨hv,h0,List.eq_nil_of_length_eq_zero (by rw [h.1,h0,Nat.zero_mul])⟩
 ·refine .inr ⟨g,cap,cur.toList.drop (n * m),hv,hg,?_,h1⟩
  rw [← ht,List.take_append_drop]
  exact hh
def AscRel (l : List Vt) (p : Nm) (w : World) (q pb : Nat) (iv : Value) (wr : World) : Prop :=
 ∃ (i : Nat) (v : Value) (D : List Vt),iv = .int .i64 (i : Int)∧i≤l.length∧D.length≤i∧(∀ s ∈ D,s ∈ l∧s.parent = p)∧wr.ownsRow w.heap.size 46 22 v D.length (D.flatMap vtc)∧Below w.heap.size w wr∧Blk wr q 24 p.cells∧Blk wr pb 56 #[v]
def AscThin (D : List Vt) (w3 : World) (v iv : Value) (wr : World) : Prop :=
 ∃ (i : Nat) (O : List Vt),iv = .int .i64 (i : Int)∧i≤D.length∧O.length≤i∧(∀ s ∈ O,s ∈ D)∧wr.ownsRow w3.heap.size 46 22 v O.length (O.flatMap vtc)∧Below w3.heap.size w3 wr
def AscMid (D : List Vt) (w : World) (pb : Nat) (v : Value) (e : Ending) (w3 : World) : Prop :=
 e = .returned (.tuple #[])∧Blk w3 pb 56 #[v]∧Below w.heap.size w w3∧∃ (l3 : List Vt) (A : Option Addr) (c : Nat),v = .slice A l3.length c∧l3.Perm D∧Rd w3 w3.heap.size A (l3.flatMap vtc)
set_option maxRecDepth 100000 in
set_option maxHeartbeats 8000000 in
theorem asc_mid (w W : World) (pb : Nat) (v : Value) (D : List Vt) (hown : W.ownsRow w.heap.size 46 22 v D.length (D.flatMap vtc)) (hb : Below w.heap.size w W) (hpb : Blk W pb 56 #[v]) (hsm : D.length≤1000000) :
  Calls Tryz.prog 116 #[.iface 56 v,.func (.func 221) #[] #[.pointer (some ⟨pb,0,none⟩)]] W (AscMid D w pb v):=by
 rcases own_tail hown with ⟨rfl,h0,_⟩ | ⟨g,cap,T,rfl,hg,hblk,hcap⟩
 ·refine (slice_nil slT_vote 0 W).mono ?_
  rintro e w3 ⟨rfl,hb3⟩
  have hD : D = []:=List.eq_nil_of_length_eq_zero h0
  subst hD
  exact ⟨rfl,hpb.below hb3 hpb.lt,hb.trans (hb3.mono hb.size),[],none,0,rfl,List.Perm.refl _,Rd.nil⟩
 ·have hne : pb ≠ g:=by
   intro e
   subst e
   unfold Blk at hpb hblk
   rw [hpb] at hblk
   injection hblk with hh
   injection hh with _ ht
   exact absurd ht (by decide)
  refine (slice_any slT_vote ⟨vtc,T⟩ (fun _ => rfl) (by decide) (fun x v hv => one_vt x hv) (fun args W => enters_asc args W) D g D.length cap W (ascLess_on T pb g D.length cap D W hpb hne rfl) hblk rfl hsm).mono ?_
  rintro e w3 ⟨rfl,l3,hr3,hp3⟩
  refine ⟨rfl,hr3.box hpb hne,hb.grown hr3.kept hb.size (fun k hk => by injection hk with hk; subst hk; exact hg),l3,_,cap,by rw [hp3.length_eq],hp3,?_⟩
  refine Rd.mk hr3.blk.lt fun j u hu => ?_
  rw [hr3.blk.cell,Nat.zero_add,List.getElem?_toArray]
  show (l3.flatMap vtc ++ T)[j]? = some u
  rw [List.getElem?_append_left (List.getElem?_eq_some_iff.1 hu).1,hu]
set_option maxRecDepth 100000 in
set_option maxHeartbeats 8000000 in
theorem asc_any (p : Nm) (A : Option Addr) (n c : Nat) (l : List Vt) (w : World) (hn : l.length = n) (hr : Rd w w.heap.size A (l.flatMap vtc)) (hsm : n≤1000000) :
  Calls Tryz.prog 166 #[p.val,.slice A n c] w fun e w' => ∃ (v : Value) (O : List Vt),e = .returned v∧(∀ s ∈ O,s ∈ l∧s.parent = p)∧O.length≤n∧w'.ownsRow w.heap.size 46 22 v O.length (O.flatMap vtc)∧Below w.heap.size w w':=by
 have HN:=Lib.hid hn
 have HR:=Lib.hid hr
 have HMid:=Lib.hid (fun W pb v D h1 h2 h3 h4 => asc_mid w W pb v D h1 h2 h3 h4)
 clear hn hr
 go_enter Tryz.func166,Tryz.ntmps166
 go_upto_region 2 with fail
 obtain ⟨w1,hw1⟩ : ∃ w1,w1 = (w.alloc (.cells p.cells 24)).alloc (.cells #[.slice none 0 0] 56):=⟨_,rfl⟩
 rw [← hw1]
 have hbw1 : Below w.heap.size w w1:=by rw [hw1]; exact ((Below.refl _ _).alloc (Nat.le_refl _) _).alloc (by simp) _
 have HB1 : Hid (Blk w1 w.heap.size 24 p.cells):=by
  unfold Hid
  rw [hw1]; exact (Blk.new w _ _).alloc _
 have HB2 : Hid (Blk w1 (w.heap.size + 1) 56 #[.slice none 0 0]):=by
  unfold Hid
  rw [hw1]
  have:=Blk.new (w.alloc (.cells p.cells 24)) 56 #[.slice none 0 0]
  simpa using this
 clear hw1
 obtain ⟨q,hq⟩ : ∃ q,q = w.heap.size:=⟨_,rfl⟩
 obtain ⟨pb,hpb⟩ : ∃ pb,pb = w.heap.size + 1:=⟨_,rfl⟩
 rw [← hpb,← hq]
 rw [← hpb] at HB2
 rw [← hq] at HB1
 have hqp : q ≠ pb:=by omega
 have hqw : w.heap.size≤q:=by omega
 have hpw : w.heap.size≤pb:=by omega
 clear hq hpb
 go_wp2
 go_loopw [13] (fun iv wr => AscRel l p w q pb iv wr) (fun iv _ => n - (intOf iv).toNat)
 case atStart => exact ⟨0,_,[],rfl,Nat.zero_le _,Nat.zero_le _,fun s hs => (List.not_mem_nil hs).elim,⟨by simp,.inl ⟨rfl,rfl⟩⟩,hbw1,HB1.out,HB2.out⟩
 case round =>
  clear hbw1 HB1 HB2
  obtain ⟨i,v,D,rfl,hin,hDi,hD,hown,hbw,hBq,hBp⟩:=hrel
  rw [HN.out] at hin
  have HD:=Lib.hid hD
  have HOwn:=Lib.hid hown
  have HBq:=Lib.hid hBq
  have HBp:=Lib.hid hBp
  have y1 : rowAt wr q 0 8 = some p.cells:=hBq.row 8 rfl
  have y2 : wr.cell? ⟨pb,0,none⟩ = some v:=hBp.cell 0
  have hqr : q < wr.heap.size:=hBq.lt
  have hpr : pb < wr.heap.size:=hBp.lt
  clear hD hown hBq hBp
  by_cases hi : i < n
  ·have di : decide ((i : Int) < (n : Int)) = true:=by simp; omega
   obtain ⟨x,hx⟩ : ∃ x,l[i]? = some x:=⟨_,List.getElem?_eq_getElem (by rw [HN.out]; exact hi)⟩
   obtain ⟨b,o,rfl,hb,hcell⟩:=HR.out.cells (by intro e; have:=flat_length vtc 22 l (vtc_len l); rw [e,HN.out] at this; simp at this; omega)
   clear hcell
   have x1 : rowAt wr b (o + i * 22) 22 = some x.cells:=(HR.out.below hbw).voteRow hx
   have hxl : x ∈ l:=List.mem_of_getElem? hx
   have HXl:=Lib.hid hxl
   clear hx hxl
   go_upto_region 5 with (refine wpList_store_blk rfl 46 (.tmp 7) (.tmp 16) rfl wr.heap.size x.cells rfl rfl 46 zeroV.cells (Blk.new wr _ _) (by rfl) (by kernel_rfl) (fun u hu => one_vt x hu) ?_; intro w4 hB4 hg4 hsz4)
   have HOwn4 : Hid (w4.ownsRow w.heap.size 46 22 v D.length (D.flatMap vtc)):=own_kept (HOwn.out.alloc _) hg4 (fun k hk => by
    injection hk with hk
    subst hk
    right
    intro e
    have:=(HOwn.out.lt _ e).2
    omega)
   have hbw4 : Below w.heap.size w w4:=(hbw.alloc hbw.size _).grown hg4 (Nat.le_trans hbw.size (by simp)) (fun k hk => by injection hk with hk; subst hk; exact hbw.size)
   have HBq4 : Hid (Blk w4 q 24 p.cells):=(HBq.out.alloc _).kept hg4 (by intro e; injection e with e; omega)
   have HBp4 : Hid (Blk w4 pb 56 #[v]):=(HBp.out.alloc _).kept hg4 (by intro e; injection e with e; omega)
   have hw4 : w4.heap.size = wr.heap.size + 1:=by rw [hsz4]; simp
   obtain ⟨z,hz⟩ : ∃ z,z = wr.heap.size:=⟨_,rfl⟩
   rw [← hz] at hB4 hw4 ⊢
   have x2 : rowAt w4 z 6 8 = some x.parent.cells:=x.row_parent hB4
   have x3 : rowAt w4 z 0 22 = some x.cells:=hB4.row 22 rfl
   have y3 : rowAt w4 q 0 8 = some p.cells:=HBq4.out.row 8 rfl
   have y4 : w4.cell? ⟨pb,0,none⟩ = some v:=HBp4.out.cell 0
   have y5 : w4.frozen? ⟨pb,0,none⟩ = false:=HBp4.out.frozen 0
   clear hB4 hg4 hsz4 x1 y1 y2 hz HOwn HBq HBp hbw hw4
   obtain ⟨k,hk⟩ : ∃ k,k = decide (x.parent = p):=⟨_,rfl⟩
   have e1 : ∀ W,(Op.equalIn 10000 24 (.agg x.parent.cells) (.agg p.cells)).run Tryz.prog W = .ok k W:=fun W => by rw [hk]; exact eqNm x.parent p W 9998
   have HK:=Lib.hid hk
   clear hk
   try go_frame
   cases k with
   | false =>
    go_wp2
    go_roundw
    case rel => exact ⟨i + 1,v,D,by go_num,by rw [HN.out]; omega,by omega,HD.out,HOwn4.out,hbw4,HBq4.out,HBp4.out⟩
    case measure => simp [intOf]; omega
   | true =>
    have hxp : x.parent = p:=of_decide_eq_true HK.out.symm
    have HXp:=Lib.hid hxp
    clear hxp HK
    go_wp2_with ((first
     | (refine wpList_build1 rfl 56 46 (.tmp 22) rfl x.cells rfl Tryz.underlying56 (by kernel_rfl) (by decide) (by decide) ?_)
     | (at_builtin; refine wpList_app rfl (.tmp 21) (.tmp 23) _ rfl w.heap.size 46 (.agg zeroV.cells) 22 64 Tryz.underlying56 info_vote rfl (by decide) v D.length (D.flatMap vtc) rfl ?r0 (w4.heap.size + 1) (some ⟨w4.heap.size,0,none⟩) 1 1 (vtc x) rfl ?r1 ?r2 ?r3 ?r4 ?r5 ?r6 ?_)))
    case r0 => exact HOwn4.out.alloc _
    case r1 => rfl
    case r2 => exact Rd.mk (by omega) (fun j u hu => by rw [Nat.zero_add,(Blk.new w4 _ _).cell]; simpa using hu)
    case r3 => exact fun u hu => one_vt x hu
    case r4 => omega
    case r5 => unfold maxLen; omega
    case r6 => have:=hbw4.size; simp; omega
    intro v3 w3 hown3 hg3 hat3
    have hne3 : some pb ≠ v.ownBlock:=own_ne HOwn4.out HBp4.out (by decide)
    have hnq3 : some q ≠ v.ownBlock:=own_ne HOwn4.out HBq4.out (by decide)
    have HBq3 : Hid (Blk w3 q 24 p.cells):=(HBq4.out.alloc _).kept hg3 hnq3
    have HBp3 : Hid (Blk w3 pb 56 #[v]):=(HBp4.out.alloc _).kept hg3 hne3
    have hne4 : some pb ≠ v3.ownBlock:=own_ne hown3 HBp3.out (by decide)
    have hbw3 : Below w.heap.size w w3:=below_own (hbw4.alloc hbw4.size _) (HOwn4.out.alloc _) hg3
    have y6 : w3.cell? ⟨pb,0,none⟩ = some v:=HBp3.out.cell 0
    have y7 : w3.frozen? ⟨pb,0,none⟩ = false:=HBp3.out.frozen 0
    obtain ⟨g3,cap3,rfl⟩:=ownsRow_succ hown3
    have HOwn3:=Lib.hid hown3
    clear hown3 hg3 hat3 hne3 hnq3
    have HNe:=Lib.hid hne4
    clear hne4
    go_wp2
    go_roundw
    case rel =>
     refine ⟨i + 1,_,D ++ [x],by go_num,by rw [HN.out]; omega,by rw [List.length_append]; simp; omega,?_,?_,hbw3.setCell hpw _,HBq3.out.far hqp _,HBp3.out.put 0 _⟩
     ·intro s hs
      rcases List.mem_append.1 hs with hs | hs
      ·exact HD.out s hs
      ·rw [List.mem_singleton.1 hs]; exact ⟨HXl.out,HXp.out⟩
     ·have h:=own_kept HOwn3.out (one_put (p:=⟨pb,0,none⟩) (one_refl w3 pb) rfl (.slice (some ⟨g3,0,none⟩) (D.length + 1) cap3)) (fun k hk => by injection hk with hk; subst hk; exact .inr (fun e => HNe.out e.symm))
      rw [List.length_append,List.flatMap_append]
      simpa using h
    case measure => simp [intOf]; omega
  ·have di : decide ((i : Int) < (n : Int)) = false:=by simp; omega
   have hDl : D.length≤n:=by omega
   have hDs : D.length≤1000000:=by omega
   have HSort:=Lib.hid (HMid.out wr pb v D HOwn.out hbw HBp.out hDs)
   clear HOwn HBq y1 HMid
   go_wp2_with fail
   refine HSort.out.mono ?_
   rintro en w3 ⟨rfl,hB3,hb3,l3,A3,c3,rfl,hp3,hr3⟩
   obtain ⟨n3,hn3⟩ : ∃ n3,l3.length = n3:=⟨_,rfl⟩
   rw [hn3] at hB3 ⊢
   have HB3:=Lib.hid hB3
   have HR3:=Lib.hid hr3
   have HP3:=Lib.hid hp3
   have HL3:=Lib.hid hn3
   have hn3n : n3≤n:=by rw [← hn3,hp3.length_eq]; exact hDl
   have z1 : w3.cell? ⟨pb,0,none⟩ = some (.slice A3 n3 c3):=hB3.cell 0
   have hp3' : pb < w3.heap.size:=hB3.lt
   clear hB3 hr3 hp3 hn3 HSort y2 HBp
   go_wp2
   go_loopw [8,32] (fun v iv wr => AscThin l3 w3 v iv wr) (fun _ iv _ => n3 - (intOf iv).toNat)
   case atStart => exact ⟨0,[],rfl,Nat.zero_le _,Nat.zero_le _,fun s hs => (List.not_mem_nil hs).elim,⟨by simp,.inl ⟨rfl,rfl⟩⟩,Below.refl _ _⟩
   case round =>
    clear z1
    obtain ⟨i2,O,rfl,hin2,hOi,hO,hownv,hbr⟩:=hrel
    rw [HL3.out] at hin2
    have HO:=Lib.hid hO
    have HOv:=Lib.hid hownv
    have hOs : O.length≤1000000:=by omega
    clear hO hownv
    by_cases hi2 : i2 < n3
    ·have di2 : decide ((i2 : Int) < (n3 : Int)) = true:=by simp; omega
     obtain ⟨x,hx⟩ : ∃ x,l3[i2]? = some x:=⟨_,List.getElem?_eq_getElem (by rw [HL3.out]; exact hi2)⟩
     obtain ⟨b3,o3,rfl,hb3',hcell⟩:=HR3.out.cells (by intro e; have:=flat_length vtc 22 l3 (vtc_len l3); rw [e,HL3.out] at this; simp at this; omega)
     clear hcell
     have x1 : rowAt wr b3 (o3 + i2 * 22) 22 = some x.cells:=(HR3.out.below hbr).voteRow hx
     have HXl:=Lib.hid (List.mem_of_getElem? hx)
     clear hx
     go_upto_region 13 with (refine wpList_store_blk rfl 46 (.tmp 10) (.tmp 36) rfl wr.heap.size x.cells rfl rfl 46 zeroV.cells (Blk.new wr _ _) (by rfl) (by kernel_rfl) (fun u hu => one_vt x hu) ?_; intro w4 hB4 hg4 hsz4)
     have HOv4 : Hid (w4.ownsRow w3.heap.size 46 22 u8 O.length (O.flatMap vtc)):=own_kept (HOv.out.alloc _) hg4 (fun k hk => by
      injection hk with hk
      subst hk
      right
      intro e
      have:=(HOv.out.lt _ e).2
      omega)
     have hbr4 : Below w3.heap.size w3 w4:=(hbr.alloc hbr.size _).grown hg4 (Nat.le_trans hbr.size (by simp)) (fun k hk => by injection hk with hk; subst hk; exact hbr.size)
     have hw4 : w4.heap.size = wr.heap.size + 1:=by rw [hsz4]; simp
     have HBx:=Lib.hid hB4
     obtain ⟨z,hz⟩ : ∃ z,z = wr.heap.size:=⟨_,rfl⟩
     rw [← hz] at HBx hw4 ⊢
     have hz4 : z < w4.heap.size:=by omega
     clear hB4 hg4 hsz4 x1 hz HOv hbr
     go_frame
     go_cut [47] (fun bv wx => ∃ r : Bool,bv = .bool r∧∃ k,wx = w4.drewN k)
     case first =>
      by_cases h0 : i2 = 0
      ·subst h0
       refine rgD (fun _ => True) (trivial) fun hHeld => ?_
       refine tkD 37 0 ?_
       go_frame
       refine tkD 38 1 ?_
       go_frame
       refine tkD 39 2 ?_
       go_frame
       refine skD 40 3 ?_
       go_frame
       refine skD 41 4 ?_
       go_frame
       refine skD 42 5 ?_
       go_frame
       refine skD 43 6 ?_
       go_frame
       refine skD 44 7 ?_
       go_frame
       refine skD 45 8 ?_
       go_frame
       refine skD 46 9 ?_
       go_frame
       refine tkD 47 10 ?_
       go_frame
       refine dnD ?_
       go_wp2_with fail
       go_meet
       exact ⟨_,rfl,1,rfl⟩
      ·have d0 : decide ((i2 : Int) = 0) = false:=by simp; omega
       have d0b : ((i2 : Int) == 0) = false:=by simp; omega
       obtain ⟨y,hy⟩ : ∃ y,l3[i2 - 1]? = some y:=⟨_,List.getElem?_eq_getElem (by rw [HL3.out]; omega)⟩
       obtain ⟨j,hj⟩ : ∃ j,j = i2 - 1:=⟨_,rfl⟩
       rw [← hj] at hy
       have hji : (i2 : Int) - 1 = (j : Int):=by omega
       have hjn : j < n3:=by omega
       have hwj : IntKind.i64.wrap (j : Int) = (j : Int):=IntWalk.i64_in _ (by omega)
       clear hj
       obtain ⟨k,hk⟩ : ∃ k,k = decide (x = y):=⟨_,rfl⟩
       have e1 : ∀ W,(Op.equalIn 10000 46 (.agg x.cells) (.agg y.cells)).run Tryz.prog W = .ok k W:=fun W => by rw [hk]; exact eqVt x y W
       have HYy:=Lib.hid hy
       clear hk hy
       have HRows : Hid (∀ V,Below w4.heap.size w4 V→rowAt V z 0 22 = some x.cells∧V.cell? ⟨pb,0,none⟩ = some (.slice (some ⟨b3,o3,none⟩) n3 c3)∧rowAt V b3 (o3 + j * 22) 22 = some y.cells):=fun V hV =>
        ⟨(HBx.out.below hV hz4).row 22 rfl,((hbr4.trans (hV.mono hbr4.size)).cell (p:=⟨pb,0,none⟩) hp3').trans (HB3.out.cell 0),(HR3.out.below (hbr4.trans (hV.mono hbr4.size))).voteRow HYy.out⟩
       have hbx : Below w4.heap.size w4 w4:=Below.refl _ _
       refine rgD (fun w' => rowAt w' z 0 22 = some x.cells∧w'.cell? ⟨pb,0,none⟩ = some (.slice (some ⟨b3,o3,none⟩) n3 c3)∧rowAt w' b3 (o3 + j * 22) 22 = some y.cells) (HRows.out _ hbx.drew) fun hHeld => ?_
       refine tkD 37 0 ?_
       go_frame
       refine tkD 38 1 ?_
       go_frame
       refine tkD 39 2 ?_
       go_frame
       refine tkD 40 3 ?_
       go_frame
       refine tkD 41 4 ?_
       go_frame
       refine tkD 42 5 ?_
       go_frame
       refine tkD 43 6 ?_
       go_frame
       refine tkD 44 7 ?_
       go_frame
       refine tkD 45 8 ?_
       go_frame
       refine tkD 46 9 ?_
       go_frame
       refine tkD 47 10 ?_
       go_frame
       refine dnD ?_
       go_wp2_with fail
       go_meet
       exact ⟨_,rfl,1,rfl⟩
     case rest =>
      obtain ⟨r,rfl,k,rfl⟩:=hcut
      have hrq : rowAt (w4.drewN k) z 0 22 = some x.cells:=by rw [rowAt_drewN]; exact HBx.out.row 22 rfl
      have HOv5 : Hid ((w4.drewN k).ownsRow w3.heap.size 46 22 u8 O.length (O.flatMap vtc)):=HOv4.out
      have hbr5 : Below w3.heap.size w3 (w4.drewN k):=below_drewN hbr4 k
      cases r with
      | true =>
       clear HOv4 hbr4
       generalize w4.drewN k = w5 at *
       go_wp2_with ((first
        | (refine wpList_build1 rfl 56 46 (.tmp 49) rfl x.cells rfl Tryz.underlying56 (by kernel_rfl) (by decide) (by decide) ?_)
        | (at_builtin; refine wpList_app rfl (.tmp 48) (.tmp 50) _ rfl w3.heap.size 46 (.agg zeroV.cells) 22 64 Tryz.underlying56 info_vote rfl (by decide) u8 O.length (O.flatMap vtc) rfl ?r0 (w5.heap.size + 1) (some ⟨w5.heap.size,0,none⟩) 1 1 (vtc x) rfl ?r1 ?r2 ?r3 ?r4 ?r5 ?r6 ?_)))
       case r0 => exact HOv5.out.alloc _
       case r1 => rfl
       case r2 => exact Rd.mk (by omega) (fun j u hu => by rw [Nat.zero_add,(Blk.new w5 _ _).cell]; simpa using hu)
       case r3 => exact fun u hu => one_vt x hu
       case r4 => omega
       case r5 => unfold maxLen; omega
       case r6 => have:=hbr5.size; simp; omega
       intro v7 w7 hown7 hg7 hat7
       have hbr7 : Below w3.heap.size w3 w7:=below_own (hbr5.alloc hbr5.size _) (HOv5.out.alloc _) hg7
       have HOv7:=Lib.hid hown7
       clear hown7 hg7 hat7 hrq HOv5 hbr5
       go_wp2
       go_roundw
       case rel =>
        refine ⟨i2 + 1,O ++ [x],by go_num,by rw [HL3.out]; omega,by rw [List.length_append]; simp; omega,?_,?_,hbr7⟩
        ·intro s hs
         rcases List.mem_append.1 hs with hs | hs
         ·exact HO.out s hs
         ·rw [List.mem_singleton.1 hs]; exact HXl.out
        ·have h:=HOv7.out
         rw [List.length_append,List.flatMap_append]
         simpa using h
       case measure => simp [intOf]; omega
      | false =>
       clear HOv4 hbr4 hrq
       generalize w4.drewN k = w5 at *
       go_wp2
       go_roundw
       case rel => exact ⟨i2 + 1,O,by go_num,by rw [HL3.out]; omega,by omega,HO.out,HOv5.out,hbr5⟩
       case measure => simp [intOf]; omega
    ·have di2 : decide ((i2 : Int) < (n3 : Int)) = false:=by simp; omega
     go_wp2
     go_ret
     exact ⟨u8,O,rfl,fun s hs => HD.out s (HP3.out.mem_iff.1 (HO.out s hs)),by omega,own_base HOv.out hb3.size,hb3.trans (hbr.mono hb3.size)⟩
end
end Go.Proofs.YtadllffeoibelaaGreat
