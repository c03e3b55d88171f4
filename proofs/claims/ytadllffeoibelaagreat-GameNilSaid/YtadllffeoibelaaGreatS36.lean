/-
  What these parts of the proof come to, functions walked and plain laws: BrA, Vals, StC. No condition.
-/
import Derived.Test.YtadllffeoibelaaGreatS35
import Derived.Deep.DeepCutAuto
import Derived.Test.YtadllffeoibelaaGreatS15
import Derived.Test.YtadllffeoibelaaGreatS29
import Derived.Test.YtadllffeoibelaaGreatS6
import Derived.Lib.ReflectliteSwap
namespace Go.Proofs.YtadllffeoibelaaGreat
section
open Go.RowKit Go.Shelf
attribute [local go_sem ↓] Go.wp_at_zero Go.wp_at_succ loadNm loadVt loadSg loadEv
attribute [local go_sem] runNm runVt runSg runEv pickRow_some rowAt_drew rowAt_drewN
theorem Rng.le' {κ : Type} {enc : κ→Value} {w : World} {m r cnt : Nat} {l : List (κ × Value)} (h : Rng enc w m r l cnt) : cnt≤l.length:=by
 obtain ⟨es,c,s,c0,seen,_,_,h3,_,_,_,_,h8⟩:=h
 rw [h8]
 unfold leftOf
 have h4:=congrArg List.length h3
 simp only [List.length_map,Array.length_toList] at h4
 rw [← h4]
 exact Array.size_filter_le
theorem Rng.ne_row' {κ : Type} {enc : κ→Value} {w : World} {m r cnt base n size : Nat} {e : TypeId} {v : Value} {xs : List Value} {l : List (κ × Value)} (h : Rng enc w m r l cnt) (ho : w.ownsRow base e size v n xs) : some m ≠ v.ownBlock∧some r ≠ v.ownBlock:=by
 obtain ⟨es,c,s,c0,seen,h1,h2,_⟩:=h
 rcases ho.2 with ⟨rfl,_⟩ | ⟨g,cap,cur,rfl,_,hh,_⟩
 ·exact ⟨by simp [Value.ownBlock],by simp [Value.ownBlock]⟩
 ·refine ⟨fun he => ?_,fun he => ?_⟩
  ·have : m = g:=by simpa [Value.ownBlock] using he
   subst this
   rw [h1] at hh
   cases hh
  ·have : r = g:=by simpa [Value.ownBlock] using he
   subst this
   rw [h2] at hh
   cases hh
def AscG (kd : Int) (n : Nat) (O : List Vt) (L : List Nm) : Prop:=∀ k,k ∈ L ↔ ¬ k = Nm.zero∧n≤popF (sgsF (pK kd k) O) 10
def VisN (n : Nat) (L : List Nm) (p : Nm × Value) : Prop:=p.1 ∈ L∨p.1 = Nm.zero∨∀ S : Nat,p.2 = .int .i64 (S : Int)→popF (xOf (S : Int)) 10 < n
theorem VisN.snoc {n : Nat} {L : List Nm} {k : Nm} {v : Value} {p : Nm × Value} (h : VisN n L p∨p = (k,v)) : VisN n (L ++ [k]) p:=by
 rcases h with h | rfl
 ·exact h.imp (fun h => List.mem_append_left _ h) id
 ·exact .inl (List.mem_append_right _ (List.mem_singleton.2 rfl))
theorem VisN.skip {n : Nat} {L : List Nm} {k : Nm} {S : Nat} {p : Nm × Value} (hq : k = Nm.zero∨popF (xOf (S : Int)) 10 < n) (h : VisN n L p∨p = (k,.int .i64 (S : Int))) : VisN n L p:=by
 rcases h with h | rfl
 ·exact h
 ·rcases hq with hq | hq
  ·exact .inr (.inl hq)
  ·refine .inr (.inr (fun S' hS' => ?_))
   simp only [Value.int.injEq,true_and] at hS'
   have : S = S':=by omega
   rw [← this]; exact hq
theorem AscG.of {kd : Int} {n : Nat} {O : List Vt} {kl : List (Nm × Value)} {L : List Nm} (hO : ∀ v ∈ O,0≤v.signer∧v.signer≤9) (hn : 1≤n) (h : BrB kd O kl) (hv : ∀ p ∈ kl,VisN n L p) (hL : ∀ k ∈ L,¬ k = Nm.zero∧n≤popF (sgsF (pK kd k) O) 10) : AscG kd n O L:=by
 refine fun k => ⟨hL k,fun ⟨h0,hk⟩ => ?_⟩
 have hS:=h.1 k
 rcases ha : alook k kl with _ | v
 ·rw [ha,Option.getD_none] at hS
  simp only [Value.int.injEq,true_and] at hS
  have : sgsF (pK kd k) O = 0:=by omega
  rw [this] at hk
  have : popF 0 10 = 0:=by decide
  omega
 ·rw [ha,Option.getD_some] at hS
  rcases hv (k,v) (alook_mem k v kl ha) with h1 | h1 | h1
  ·exact h1
  ·exact absurd h1 h0
  ·have:=h1 _ hS
   rw [xOf_nat _ (sgsF_lt hO)] at this
   omega
def AscPost (kd : Int) (n : Nat) (O : List Vt) (w : World) (e : Ending) (w' : World) : Prop :=
 ∃ (v : Value) (L : List Nm),e = .returned v∧AscG kd n O L∧L.length≤O.length∧w'.ownsRow w.heap.size 24 8 v L.length (L.flatMap nmc)∧Below w.heap.size w w'
def AscOwn (kd : Int) (n : Nat) (O : List Vt) (m r pb : Nat) (kl : List (Nm × Value)) (w : World) (wr : World) : Prop :=
 ∃ (cnt : Nat) (v : Value) (L : List Nm),RngV Nm.val wr m r kl cnt (VisN n L)∧Blk wr pb 75 #[v]∧L.length + cnt≤kl.length∧(∀ k ∈ L,¬ k = Nm.zero∧n≤popF (sgsF (pK kd k) O) 10)∧wr.ownsRow w.heap.size 24 8 v L.length (L.flatMap nmc)∧Below w.heap.size w wr
set_option maxRecDepth 100000 in
set_option maxHeartbeats 8000000 in
theorem ascN_any (kd : Int) (n : Nat) (O : List Vt) (m : Nat) (kl : List (Nm × Value)) (wb : World) (hO : ∀ v ∈ O,0≤v.signer∧v.signer≤9) (hO6 : O.length≤1000000) (hn : 1≤n) (hbr : BrB kd O kl) (hmp : MapB Nm.val wb m kl) :
  Calls Tryz.prog 249 #[.map (some m),.int .i64 (n : Int)] wb (AscPost kd n O wb):=by
 have hkl6 : kl.length≤1000000:=by have:=hbr.2.2; omega
 have hklO:=hbr.2.2
 have HSz : Hid (∀ X W,Calls Tryz.prog 15 #[.int .i64 X] W fun e w' => e = .returned (.int .i64 ((popF (xOf X) 10 : Nat) : Int))∧w' = W):=fun X W => csizeM_any X W
 have HMid:=Lib.hid (fun W W' pb v D h1 h2 h3 h4 => nm_mid W W' pb v D h1 h2 h3 h4)
 have HOs:=Lib.hid hO
 have HBr:=Lib.hid hbr
 have HN1:=Lib.hid hn
 obtain ⟨pb,hpb⟩ : ∃ pb,pb = wb.heap.size:=⟨_,rfl⟩
 obtain ⟨w5,hw5⟩ : ∃ w5,w5 = wb.alloc (.cells #[.slice none 0 0] 75):=⟨_,rfl⟩
 have hBp : Blk w5 pb 75 #[.slice none 0 0]:=by rw [hw5,hpb]; exact Blk.new wb _ _
 have hmp5 : MapB Nm.val w5 m kl:=by rw [hw5]; exact hmp.alloc _
 have hbw5' : Below wb.heap.size wb w5:=by rw [hw5]; exact (Below.refl _ _).alloc (Nat.le_refl _) _
 have hmw : m < wb.heap.size:=hmp.is.lt
 have HW5:=Lib.hid hw5
 have HPb:=Lib.hid hpb
 have hpw : wb.heap.size≤pb:=by omega
 clear hw5 hpb hO hbr hn hmp
 go_enter Tryz.func249,Tryz.ntmps249
 go_upto_region 2 with fail
 simp only [← HW5.out,← HPb.out]
 obtain ⟨r,hr⟩ : ∃ r,r = w5.heap.size:=⟨_,rfl⟩
 go_wp2_with (at_range; refine wpList_range_rngV _ rfl _ 288 rfl _ _ Tryz.underlying288 m kl rfl hmp5 (VisN n []) ?_; intro o6 cnt6 hrg6)
 have hBp6 : Blk (w5.alloc o6) pb 75 #[.slice none 0 0]:=hBp.alloc _
 have hbw6 : Below wb.heap.size wb (w5.alloc o6):=hbw5'.alloc hbw5'.size _
 rw [← hr] at hrg6 ⊢
 have hrw : wb.heap.size≤r:=by rw [hr]; exact hbw5'.size
 have hrp : r ≠ pb:=by have:=hBp.lt; omega
 have hmr : m ≠ r:=by omega
 have hmpb : m ≠ pb:=by omega
 generalize w5.alloc o6 = w6 at *
 have HRg6:=Lib.hid hrg6
 have HBp6:=Lib.hid hBp6
 clear hrg6 hBp6 hr hBp hmp5 hbw5' HW5
 go_frame
 go_loopw [10] (fun _ wx => AscOwn kd n O m r pb kl wb wx) (fun _ wx => itLeft m r wx)
 case atStart => exact ⟨cnt6,_,[],HRg6.out,HBp6.out,by have:=HRg6.out.rng.le'; simpa using this,fun o ho => (List.not_mem_nil ho).elim,⟨by simp,.inl ⟨rfl,rfl⟩⟩,hbw6⟩
 case round =>
  obtain ⟨cnt,v,L,hrg,hBp,hLc,hL,hown,hbx⟩:=hrel
  have HRg:=Lib.hid hrg
  have HBp:=Lib.hid hBp
  have HL3:=Lib.hid hL
  have HOwn:=Lib.hid hown
  have y1 : wr.cell? ⟨pb,0,none⟩ = some v:=hBp.cell 0
  have hL6 : L.length≤1000000:=by omega
  have hrx : r < wr.heap.size:=hrg.rng.lt
  have hpx : pb < wr.heap.size:=hBp.lt
  have hmx : m < wr.heap.size:=hrg.rng.mlt
  clear hrg hBp hL hown HRg6 HBp6
  go_wp2_with (at_next; refine wpList_next_rngV _ rfl _ rfl m r cnt kl _ rfl HRg.out ?_ ?_)
  ·intro hvis
   have HVis:=Lib.hid hvis
   clear hvis
   have HSort:=Lib.hid (HMid.out wb wr pb v L HOwn.out hbx HBp.out hL6)
   clear HMid
   go_wp2_with fail
   refine HSort.out.mono ?_
   rintro en w8 ⟨rfl,hB8,hb8,l8,hp8,hown8⟩
   have z1 : w8.cell? ⟨pb,0,none⟩ = some v:=hB8.cell 0
   have HP8:=Lib.hid hp8
   have HOwn8:=Lib.hid hown8
   have hll : L.length≤O.length:=by omega
   clear hB8 hp8 hown8 HSort y1
   go_wp2
   go_ret
   have hA:=AscG.of HOs.out HN1.out HBr.out (fun pp hpp => HVis.out pp.1 pp.2 hpp) HL3.out
   exact ⟨v,l8,rfl,fun k => (HP8.out.mem_iff).trans (hA k),by rw [HP8.out.length_eq]; exact hll,HOwn8.out,hb8⟩
  ·intro k v1 w1 cnt1 hmem hrg1 hlt1 hg1 hs1 hen
   obtain ⟨S,hv1,hS10,hSb⟩:=HBr.out.2.1 (k,v1) hmem
   simp only at hv1 hSb
   subst hv1
   have HSb:=Lib.hid hSb
   have hb1 : Below wb.heap.size wb w1:=hbx.grown hg1 hbx.size (fun j hj => by injection hj with hj; subst hj; exact hrw)
   have HBp1 : Hid (Blk w1 pb 75 #[v]):=HBp.out.kept hg1 (by intro e; injection e with e; exact hrp e.symm)
   have hnr : v.ownBlock ≠ some r:=fun e => (HRg.out.rng.ne_row' HOwn.out).2 e.symm
   have HOwn1E : Hid (w1.ownsRow wb.heap.size 24 8 v L.length (L.flatMap nmc)):=own_kept HOwn.out hg1 (fun j hj => by injection hj with hj; subst hj; exact .inr hnr)
   have HRg1:=Lib.hid hrg1
   have hr1 : r < w1.heap.size:=hrg1.rng.lt
   have hm1 : m < w1.heap.size:=hrg1.rng.mlt
   have hp1 : pb < w1.heap.size:=HBp1.out.lt
   clear hmem hrg1 hg1 y1 hnr hSb
   clear hs1
   go_upto_region 5 with fail
   obtain ⟨w4,hw4⟩ : ∃ w4,w4 = w1.alloc (.cells k.cells 24):=⟨_,rfl⟩
   rw [← hw4]
   have HRg4 : Hid (RngV Nm.val w4 m r kl cnt1 (fun p => VisN n L p∨p = (k,.int .i64 (S : Int)))):=by unfold Hid; rw [hw4]; exact HRg1.out.alloc _
   have HBp4 : Hid (Blk w4 pb 75 #[v]):=by unfold Hid; rw [hw4]; exact HBp1.out.alloc _
   have HOwn4 : Hid (w4.ownsRow wb.heap.size 24 8 v L.length (L.flatMap nmc)):=by unfold Hid; rw [hw4]; exact HOwn1E.out.alloc _
   have hb4 : Below wb.heap.size wb w4:=by rw [hw4]; exact hb1.alloc hb1.size _
   have hB4 : Blk w4 w1.heap.size 24 k.cells:=by rw [hw4]; exact Blk.new w1 _ _
   clear hw4
   obtain ⟨z,hz⟩ : ∃ z,z = w1.heap.size:=⟨_,rfl⟩
   rw [← hz] at hB4 ⊢
   have x3 : rowAt w4 z 0 8 = some k.cells:=hB4.row 8 rfl
   have y4 : w4.cell? ⟨pb,0,none⟩ = some v:=HBp4.out.cell 0
   clear hB4 hz hen HBp1 HOwn1E hb1
   obtain ⟨a,ha⟩ : ∃ a,a = popF (xOf (S : Int)) 10:=⟨_,rfl⟩
   have HSzS : Hid (∀ W,Calls Tryz.prog 15 #[.int .i64 (S : Int)] W fun e w' => e = .returned (.int .i64 (a : Int))∧w' = W):=fun W => by rw [ha]; exact HSz.out _ W
   have HA:=Lib.hid ha
   clear ha
   try go_frame
   by_cases h0 : k = Nm.zero
   ·have e0 : ∀ W,(Op.equalIn 10000 24 (.agg k.cells) (.agg #[.int .u8 0,.int .u8 0,.int .u8 0,.int .u8 0,.int .u8 0,.int .u8 0,.int .u8 0,.int .u8 0])).run Tryz.prog W = .ok true W:=fun W => by
     have h:=eqNm0 k W
     rwa [decide_eq_true h0] at h
    have H0:=Lib.hid h0
    clear h0
    go_wp2
    go_roundw
    case rel => exact ⟨cnt1,v,L,HRg4.out.mono (fun p hp => VisN.skip (.inl H0.out) hp),HBp4.out,by omega,HL3.out,HOwn4.out,hb4⟩
    case measure => rw [HRg4.out.rng.left_eq,HRg.out.rng.left_eq]; exact hlt1
   have e0 : ∀ W,(Op.equalIn 10000 24 (.agg k.cells) (.agg #[.int .u8 0,.int .u8 0,.int .u8 0,.int .u8 0,.int .u8 0,.int .u8 0,.int .u8 0,.int .u8 0])).run Tryz.prog W = .ok false W:=fun W => by
    have h:=eqNm0 k W
    rwa [decide_eq_false h0] at h
   have H0:=Lib.hid h0
   clear h0
   by_cases hq : n≤a
   ·have dq : decide ((n : Int)≤(a : Int)) = true:=by simp; omega
    go_wp2_with fail
    refine (HSzS.out _).mono ?_
    rintro en w5' ⟨rfl,hw5'⟩
    replace hw5':=hw5'.symm
    subst hw5'
    have hok : ¬ k = Nm.zero∧n≤popF (sgsF (pK kd k) O) 10:=⟨H0.out,by
     have h:=popF_mono (a:=S) (b:=sgsF (pK kd k) O) (fun i _ hi => HSb.out i hi) 10 (Nat.le_refl _)
     have h2:=HA.out
     rw [xOf_nat S hS10] at h2
     omega⟩
    have HOk:=Lib.hid hok
    clear hok
    go_wp2_with ((first
     | (refine wpList_build1 rfl 75 24 (.tmp 25) rfl k.cells rfl Tryz.underlying75 (by kernel_rfl) (by decide) (by decide) ?_)
     | (at_builtin; refine wpList_app rfl (.tmp 24) (.tmp 26) _ rfl wb.heap.size 24 (Nm.val ⟨0,0,0,0,0,0,0,0⟩) 8 8 Tryz.underlying75 info_name rfl (by decide) v L.length (L.flatMap nmc) rfl ?r0 (w4.heap.size + 1) (some ⟨w4.heap.size,0,none⟩) 1 1 (nmc k) rfl ?r1 ?r2 ?r3 ?r4 ?r5 ?r6 ?_)))
    case r0 => exact HOwn4.out.alloc _
    case r1 => rfl
    case r2 => exact Rd.mk (by omega) (fun j u hu => by rw [Nat.zero_add,(Blk.new w4 _ _).cell]; simpa using hu)
    case r3 => exact fun u hu => one_nmc k hu
    case r4 => omega
    case r5 => unfold maxLen; omega
    case r6 => have:=hb4.size; simp; omega
    intro v7 w7 hown7 hg7 hat7
    have hne7 : some pb ≠ v.ownBlock:=own_ne HOwn4.out HBp4.out (by decide)
    have hnn:=HRg4.out.rng.ne_row' HOwn4.out
    have HBp7 : Hid (Blk w7 pb 75 #[v]):=(HBp4.out.alloc _).kept hg7 hne7
    have HRg7 : Hid (RngV Nm.val w7 m r kl cnt1 (fun p => VisN n L p∨p = (k,.int .i64 (S : Int)))):=(HRg4.out.alloc _).kept hg7 hnn.1 hnn.2
    have hb7 : Below wb.heap.size wb w7:=below_own (hb4.alloc hb4.size _) (HOwn4.out.alloc _) hg7
    have hne8 : some pb ≠ v7.ownBlock:=own_ne hown7 HBp7.out (by decide)
    obtain ⟨g7,cap7,rfl⟩:=ownsRow_succ hown7
    have HOwn7:=Lib.hid hown7
    have HNe:=Lib.hid hne8
    have y6 : w7.cell? ⟨pb,0,none⟩ = some v:=HBp7.out.cell 0
    have y7 : w7.frozen? ⟨pb,0,none⟩ = false:=HBp7.out.frozen 0
    clear hown7 hg7 hat7 hne7 hnn hne8 y4 x3
    go_wp2
    try go_frame
    have HRg8 : Hid (RngV Nm.val (w7.setCell ⟨pb,0,none⟩ (.slice (some ⟨g7,0,none⟩) (L.length + 1) cap7)) m r kl cnt1 (VisN n (L ++ [k]))):=(HRg7.out.kept (one_put (p:=⟨pb,0,none⟩) (one_refl w7 pb) rfl _) (by intro e; injection e with e; exact hmpb e) (by intro e; injection e with e; exact hrp e)).mono (fun p hp => VisN.snoc hp)
    go_roundw
    case rel =>
     refine ⟨cnt1,_,L ++ [k],HRg8.out,HBp7.out.put 0 _,by rw [List.length_append]; simp; omega,?_,?_,hb7.setCell hpw _⟩
     ·intro t ht
      rcases List.mem_append.1 ht with ht | ht
      ·exact HL3.out t ht
      ·rw [List.mem_singleton.1 ht]; exact HOk.out
     ·have h:=own_kept HOwn7.out (one_put (p:=⟨pb,0,none⟩) (one_refl w7 pb) rfl (.slice (some ⟨g7,0,none⟩) (L.length + 1) cap7)) (fun j hj => by injection hj with hj; subst hj; exact .inr (fun e => HNe.out e.symm))
      rw [List.length_append,List.flatMap_append]
      simpa using h
    case measure => rw [HRg8.out.rng.left_eq,HRg.out.rng.left_eq]; exact hlt1
   ·have dq : decide ((n : Int)≤(a : Int)) = false:=by simp; omega
    go_wp2_with fail
    refine (HSzS.out _).mono ?_
    rintro en w5' ⟨rfl,hw5'⟩
    replace hw5':=hw5'.symm
    subst hw5'
    go_wp2
    go_roundw
    case rel => exact ⟨cnt1,v,L,HRg4.out.mono (fun p hp => VisN.skip (.inr (by rw [← HA.out]; omega)) hp),HBp4.out,by omega,HL3.out,HOwn4.out,hb4⟩
    case measure => rw [HRg4.out.rng.left_eq,HRg.out.rng.left_eq]; exact hlt1
end
section
open Go.RowKit Go.Shelf
attribute [local go_sem ↓] Go.wp_at_zero Go.wp_at_succ loadNm loadVt loadSg loadEv loadVl
attribute [local go_sem] runNm runVt runSg runEv runVl pickRow_some rowAt_drew rowAt_drewN
theorem wpList_mapB {P : Program} {kt : TypeId} {κ : Type} [DecidableEq κ] {enc : κ→Value} {ops : Array Oper} {rest : List Oper} {o : Oper} {a : Act} {w : World} {Q : Exit→Act→World→Prop} (hg : o.guard = none) (t e : TypeId) (mo ko vo : Operand) (ho : o.op = .mapUpdate t mo ko vo)
  (m : Nat) (k : κ) (v : Value) (l : List (κ × Value)) (hm : a.eval mo = .map (some m)) (hk : a.eval ko = enc k) (hv : a.eval vo = v) (h : MapB enc w m l) (K' : KeyOk P kt enc) (ht : P.underlying t = some (.map kt e))
  (hK : ∀ w',MapB enc w' m (aput k v l)→w.grownBy w' (some m)→w'.heap.size = w.heap.size→wpList P ops Q rest (a.put o.dst undef) w') : wpList P ops Q (o :: rest) a w:=by
 refine wpList_plain hg fun K hK2 => ?_
 obtain ⟨w',h1,h2,h3,h4⟩:=h.store K' ht k v (e:=e)
 unfold Oper.wp execOp
 simp only [ho,hm,hk,hv,Sem.run_bind,h1,Result.andThen_ok,Sem.run_pure]
 exact hK2 _ _ (hK w' h2 h3 h4)
def IsVal (k r : Int) (O : List Vt) (x : Vl) : Prop:=∃ v ∈ O,v.kind = k∧v.round = r∧¬ v.choice = 2∧vlOf v = x
def ValB (k r : Int) (O : List Vt) (kl : List (Vl × Value)) : Prop:=(∀ q ∈ kl,IsVal k r O q.1)∧(∀ x,IsVal k r O x→∃ u,alook x kl = some u)∧kl.length≤O.length
theorem ValB.nil (k r : Int) : ValB k r [] []:=⟨fun q h => (by cases h),fun x ⟨v,hv,_⟩ => (by cases hv),Nat.le_refl _⟩
theorem IsVal.more {k r : Int} {O O' : List Vt} {x : Vl} (h : IsVal k r O x) : IsVal k r (O ++ O') x:=by
 obtain ⟨v,hv,h⟩:=h
 exact ⟨v,List.mem_append_left _ hv,h⟩
theorem aput_mem {κ : Type} [DecidableEq κ] {k : κ} {v : Value} {q : κ × Value} : ∀ {l : List (κ × Value)},q ∈ aput k v l→q ∈ l∨q.1 = k
 | [],h => by
  simp [aput] at h
  exact .inr (by rw [h])
 | p :: l,h => by
  unfold aput at h
  split at h
  ·rename_i hp
   rcases List.mem_cons.1 h with h | h
   ·exact .inr (by rw [h])
   ·exact .inl (List.mem_cons_of_mem _ h)
  ·rcases List.mem_cons.1 h with h | h
   ·exact .inl (by rw [h]; exact List.mem_cons_self)
   ·rcases aput_mem h with h | h
    ·exact .inl (List.mem_cons_of_mem _ h)
    ·exact .inr h
theorem ValB.skip {k r : Int} {O : List Vt} {i : Nat} {x : Vt} {kl : List (Vl × Value)} (h : ValB k r (O.take i) kl) (hx : O[i]? = some x) (hn : ¬ (x.kind = k∧x.round = r∧¬ x.choice = 2)) : ValB k r (O.take (i + 1)) kl:=by
 rw [take_next hx]
 refine ⟨fun q hq => (h.1 q hq).more,fun y ⟨v,hv,h1,h2,h3,h4⟩ => ?_,by have:=h.2.2; rw [List.length_append]; omega⟩
 rcases List.mem_append.1 hv with hv | hv
 ·exact h.2.1 y ⟨v,hv,h1,h2,h3,h4⟩
 ·rw [List.mem_singleton.1 hv] at h1 h2 h3
  exact absurd ⟨h1,h2,h3⟩ hn
theorem ValB.step {k r : Int} {O : List Vt} {i : Nat} {x : Vt} {kl : List (Vl × Value)} (u : Value) (h : ValB k r (O.take i) kl) (hx : O[i]? = some x) (h1 : x.kind = k) (h2 : x.round = r) (h3 : ¬ x.choice = 2) : ValB k r (O.take (i + 1)) (aput (vlOf x) u kl):=by
 rw [take_next hx]
 refine ⟨fun q hq => ?_,fun y ⟨v,hv,g1,g2,g3,g4⟩ => ?_,?_⟩
 ·rcases aput_mem hq with hq | hq
  ·exact (h.1 q hq).more
  ·rw [hq]
   exact ⟨x,List.mem_append_right _ (List.mem_singleton.2 rfl),h1,h2,h3,rfl⟩
 ·rw [alook_aput]
  by_cases hy : y = vlOf x
  ·exact ⟨u,by rw [if_pos hy]⟩
  ·rw [if_neg hy]
   rcases List.mem_append.1 hv with hv | hv
   ·exact h.2.1 y ⟨v,hv,g1,g2,g3,g4⟩
   ·rw [List.mem_singleton.1 hv] at g4
    exact absurd g4.symm hy
 ·have:=h.2.2
  have:=aput_len (vlOf x) u kl
  rw [List.length_append,List.length_singleton]
  omega
def VisL (L : List Vl) (p : Vl × Value) : Prop:=p.1 ∈ L
theorem VisL.snoc {L : List Vl} {k : Vl} {v : Value} {p : Vl × Value} (h : VisL L p∨p = (k,v)) : VisL (L ++ [k]) p:=by
 rcases h with h | rfl
 ·exact List.mem_append_left _ h
 ·exact List.mem_append_right _ (List.mem_singleton.2 rfl)
def ValPost (k r : Int) (O : List Vt) (w : World) (e : Ending) (w' : World) : Prop :=
 ∃ (v : Value) (L : List Vl),e = .returned v∧(∀ x,x ∈ L ↔ IsVal k r O x)∧L.length≤O.length∧w'.ownsRow w.heap.size 258 9 v L.length (L.flatMap vlc)∧Below w.heap.size w w'
def ValRel (k r : Int) (O : List Vt) (m : Nat) (w : World) (iv : Value) (wr : World) : Prop :=
 ∃ (i : Nat) (kl : List (Vl × Value)),iv = .int .i64 (i : Int)∧i≤O.length∧ValB k r (O.take i) kl∧MapB Vl.val wr m kl∧w.grownBy wr (some m)
def ValOwn (m r pb : Nat) (kl : List (Vl × Value)) (w : World) (wr : World) : Prop :=
 ∃ (cnt : Nat) (v : Value) (L : List Vl),RngV Vl.val wr m r kl cnt (VisL L)∧Blk wr pb 261 #[v]∧L.length + cnt≤kl.length∧(∀ x ∈ L,∃ u,(x,u) ∈ kl)∧wr.ownsRow w.heap.size 258 9 v L.length (L.flatMap vlc)∧Below w.heap.size w wr
set_option maxRecDepth 100000 in
set_option maxHeartbeats 8000000 in
theorem vals_any {w : World} {b : Nat} {M q s f : Int} {p : Nm} {A : Option Addr} {c mo : Nat} {O : List Vt} {ow : Int→Int→Bool} (h : VrAt w b M q s f p A c mo O ow) (hsm : O.length≤1000000) (kd rd : Int) :
  Calls Tryz.prog 210 #[.pointer (some ⟨b,0,none⟩),.int .i64 kd,.int .i64 rd] w (ValPost kd rd O w):=by
 obtain ⟨m,hm⟩ : ∃ m,m = w.heap.size:=⟨_,rfl⟩
 obtain ⟨wm,hwm⟩ : ∃ wm,wm = w.alloc (.map #[] 0):=⟨_,rfl⟩
 have hmp : MapB Vl.val wm m []:=by rw [hwm,hm]; exact MapB.new Vl.val w
 have hbm : Below w.heap.size w wm:=by rw [hwm]; exact (Below.refl _ _).alloc (Nat.le_refl _) _
 have hV:=h.below hbm
 have y1 : wm.cell? ⟨b,12,none⟩ = some (.slice A O.length c):=hV.blk.cell 12
 have HR:=Lib.hid h.rd
 have hmw : w.heap.size≤m:=by omega
 have HMp:=Lib.hid hmp
 have HBm:=Lib.hid hbm
 have HWm:=Lib.hid hwm
 have HM:=Lib.hid hm
 have hmk : ∀ W : World,(Instr.makeMap 290 none).run Tryz.prog W = .ok (.map (some W.heap.size)) (W.alloc (.map #[] 0)):=fun W => rfl
 have HOf:=Lib.hid (fun x W => agof_any x W)
 have HMid:=Lib.hid (fun W W' pb v D h1 h2 h3 h4 => vl_mid W W' pb v D h1 h2 h3 h4)
 obtain ⟨n,hn⟩ : ∃ n,O.length = n:=⟨_,rfl⟩
 rw [hn] at y1 hsm
 have HN:=Lib.hid hn
 clear h hV hmp hbm hwm hm hn
 go_enter Tryz.func210,Tryz.ntmps210
 go_upto_region 2 with fail
 simp only [← HWm.out,← HM.out]
 go_wp2
 go_loopw [18] (fun iv wr => ValRel kd rd O m wm iv wr) (fun iv _ => n - (intOf iv).toNat)
 case atStart => exact ⟨0,[],rfl,Nat.zero_le _,ValB.nil kd rd,HMp.out,one_refl wm m⟩
 case round =>
  obtain ⟨i,kl,rfl,hin,hvb,hmap,hgr⟩:=hrel
  rw [HN.out] at hin
  have HVb:=Lib.hid hvb
  have HMap:=Lib.hid hmap
  have HGr:=Lib.hid hgr
  have hbw : Below w.heap.size w wr:=HBm.out.grown hgr HBm.out.size (fun k hk => by injection hk with hk; subst hk; exact hmw)
  clear hvb hmap hgr
  by_cases hi : i < n
  ·have di : decide ((i : Int) < (n : Int)) = true:=by simp; omega
   obtain ⟨x,hx⟩ : ∃ x,O[i]? = some x:=⟨_,List.getElem?_eq_getElem (by rw [HN.out]; exact hi)⟩
   obtain ⟨g0,o,rfl,hb,hcell⟩:=HR.out.cells (by intro e; have:=flat_length vtc 22 O (vtc_len O); rw [e,HN.out] at this; simp at this; omega)
   clear hcell
   have x1 : rowAt wr g0 (o + i * 22) 22 = some x.cells:=(HR.out.below hbw).voteRow hx
   have HXx:=Lib.hid hx
   clear hx
   go_upto_region 5 with (refine wpList_store_blk rfl 46 (.tmp 9) (.tmp 21) rfl wr.heap.size x.cells rfl rfl 46 zeroV.cells (Blk.new wr _ _) (by rfl) (by kernel_rfl) (fun u hu => one_vt x hu) ?_; intro w4 hB4 hg4 hsz4)
   have HGr4 : Hid (wm.grownBy w4 (some m)):=(one_alloc HGr.out _).andThen hg4 (fun k hk => by injection hk with hk; subst hk; exact .inl HGr.out.size)
   have HMap4 : Hid (MapB Vl.val w4 m kl):=(HMap.out.alloc _).kept hg4 (by intro e; injection e with e; have:=HMap.out.is.lt; omega)
   obtain ⟨z,hz⟩ : ∃ z,z = wr.heap.size:=⟨_,rfl⟩
   rw [← hz] at hB4 ⊢
   have x4 : rowAt w4 z 0 22 = some x.cells:=hB4.row 22 rfl
   have x5 : w4.cell? ⟨z,0,none⟩ = some (.int .i64 x.kind):=hB4.cell 0
   have x6 : w4.cell? ⟨z,2,none⟩ = some (.int .i64 x.round):=hB4.cell 2
   have x7 : w4.cell? ⟨z,3,none⟩ = some (.int .i64 x.choice):=hB4.cell 3
   have hmw4 : m < w4.heap.size:=HMap4.out.is.lt
   clear hB4 hg4 hsz4 hz x1 hbw
   try go_frame
   by_cases h1 : x.kind = kd
   ·have e1 : (x.kind == kd) = true:=by rw [h1]; exact beq_self_eq_true _
    have H1:=Lib.hid h1
    clear h1
    by_cases h2 : x.round = rd
    ·have e2 : (x.round == rd) = true:=by rw [h2]; exact beq_self_eq_true _
     have H2:=Lib.hid h2
     clear h2
     by_cases h3 : x.choice = 2
     ·have e3 : (x.choice != 2) = false:=by rw [h3]; rfl
      have HB':=Lib.hid (HVb.out.skip HXx.out (fun hh => hh.2.2 h3))
      clear h3
      go_wp2
      go_roundw
      case rel => exact ⟨i + 1,kl,by go_num,by rw [HN.out]; omega,HB'.out,HMap4.out,HGr4.out⟩
      case measure => simp [intOf]; omega
     ·have e3 : (x.choice != 2) = true:=by simpa using h3
      have HB':=Lib.hid (HVb.out.step (.int .i64 1) HXx.out H1.out H2.out h3)
      clear h3
      go_wp2_with (first
       | (go_at_call 213; refine (HOf.out _ _).mono ?_; rintro en w5 ⟨rfl,hb5⟩; have HMap5 : Hid (MapB Vl.val w5 m kl):=HMap4.out.below hb5 hmw4; have HGr5 : Hid (wm.grownBy w5 (some m)):=HGr4.out.trans (below_grown hb5); clear hb5)
       | (refine wpList_mapB rfl 290 3 (.tmp 37) (.tmp 39) (.const (.int .i64 1)) rfl m (vlOf x) (.int .i64 1) kl rfl rfl rfl HMap5.out keyVl Tryz.underlying290 ?_; intro w6 hM6 hg6 hs6; have HM6:=Lib.hid hM6; have HGr6 : Hid (wm.grownBy w6 (some m)):=HGr5.out.trans hg6; clear hM6 hg6))
      go_roundw
      case rel => exact ⟨i + 1,_,by go_num,by rw [HN.out]; omega,HB'.out,HM6.out,HGr6.out⟩
      case measure => simp [intOf]; omega
    ·have e2 : (x.round == rd) = false:=by simpa using h2
     have HB':=Lib.hid (HVb.out.skip HXx.out (fun hh => h2 hh.2.1))
     clear h2
     go_wp2
     go_roundw
     case rel => exact ⟨i + 1,kl,by go_num,by rw [HN.out]; omega,HB'.out,HMap4.out,HGr4.out⟩
     case measure => simp [intOf]; omega
   ·have e1 : (x.kind == kd) = false:=by simpa using h1
    have HB':=Lib.hid (HVb.out.skip HXx.out (fun hh => h1 hh.1))
    clear h1
    go_wp2
    go_roundw
    case rel => exact ⟨i + 1,kl,by go_num,by rw [HN.out]; omega,HB'.out,HMap4.out,HGr4.out⟩
    case measure => simp [intOf]; omega
  ·have di : decide ((i : Int) < (n : Int)) = false:=by simp; omega
   have hall : ValB kd rd O kl:=by
    have h:=HVb.out
    rwa [List.take_of_length_le (by rw [HN.out]; omega)] at h
   have hkln : kl.length≤n:=by have:=hall.2.2; rw [HN.out] at this; exact this
   have HAll:=Lib.hid hall
   clear hall HVb
   obtain ⟨pb,hpb⟩ : ∃ pb,pb = wr.heap.size:=⟨_,rfl⟩
   obtain ⟨w5,hw5⟩ : ∃ w5,w5 = wr.alloc (.cells #[.slice none 0 0] 261):=⟨_,rfl⟩
   have hBp : Blk w5 pb 261 #[.slice none 0 0]:=by rw [hw5,hpb]; exact Blk.new wr _ _
   have hmp5 : MapB Vl.val w5 m kl:=by rw [hw5]; exact HMap.out.alloc _
   have hbw5' : Below w.heap.size w w5:=by rw [hw5]; exact hbw.alloc hbw.size _
   have hpw : w.heap.size≤pb:=by rw [hpb]; exact hbw.size
   have hmpb : m ≠ pb:=by rw [hpb]; have:=HMap.out.is.lt; omega
   have HW5:=Lib.hid hw5
   have HPb:=Lib.hid hpb
   clear hw5 hpb
   go_upto_region 9 with fail
   simp only [← HW5.out,← HPb.out]
   obtain ⟨r,hr⟩ : ∃ r,r = w5.heap.size:=⟨_,rfl⟩
   go_wp2_with (at_range; refine wpList_range_rngV _ rfl _ 290 rfl _ _ Tryz.underlying290 m kl rfl hmp5 (VisL []) ?_; intro o6 cnt6 hrg6)
   have hBp6 : Blk (w5.alloc o6) pb 261 #[.slice none 0 0]:=hBp.alloc _
   have hbw6 : Below w.heap.size w (w5.alloc o6):=hbw5'.alloc hbw5'.size _
   rw [← hr] at hrg6 ⊢
   have hrw : w.heap.size≤r:=by rw [hr]; exact hbw5'.size
   have hrp : r ≠ pb:=by have:=hBp.lt; omega
   generalize w5.alloc o6 = w6 at *
   have HRg6:=Lib.hid hrg6
   have HBp6:=Lib.hid hBp6
   clear hrg6 hBp6 hr hBp hmp5 hbw5' HW5 hbw
   go_frame
   go_loopw [43] (fun _ wx => ValOwn m r pb kl w wx) (fun _ wx => itLeft m r wx)
   case atStart => exact ⟨cnt6,_,[],HRg6.out,HBp6.out,by have:=HRg6.out.rng.le'; simpa using this,fun o ho => (List.not_mem_nil ho).elim,⟨by simp,.inl ⟨rfl,rfl⟩⟩,hbw6⟩
   case round =>
    obtain ⟨cnt,v,L,hrg,hBp,hLc,hL,hown,hbx⟩:=hrel
    have HRg:=Lib.hid hrg
    have HBp:=Lib.hid hBp
    have HL3:=Lib.hid hL
    have HOwn:=Lib.hid hown
    have y2 : wr.cell? ⟨pb,0,none⟩ = some v:=hBp.cell 0
    have hL6 : L.length≤1000000:=by omega
    have hrx : r < wr.heap.size:=hrg.rng.lt
    have hpx : pb < wr.heap.size:=hBp.lt
    have hmx : m < wr.heap.size:=hrg.rng.mlt
    clear hrg hBp hL hown HRg6 HBp6
    go_wp2_with (at_next; refine wpList_next_rngV _ rfl _ rfl m r cnt kl _ rfl HRg.out ?_ ?_)
    ·intro hvis
     have HVis:=Lib.hid hvis
     clear hvis
     have HSort:=Lib.hid (HMid.out w wr pb v L HOwn.out hbx HBp.out hL6)
     clear HMid
     go_wp2_with fail
     refine HSort.out.mono ?_
     rintro en w8 ⟨rfl,hB8,hb8,l8,hp8,hown8⟩
     have z1 : w8.cell? ⟨pb,0,none⟩ = some v:=hB8.cell 0
     have HP8:=Lib.hid hp8
     have HOwn8:=Lib.hid hown8
     have hll : L.length≤O.length:=by rw [HN.out]; omega
     clear hB8 hp8 hown8 HSort y2
     go_wp2
     go_ret
     refine ⟨v,l8,rfl,fun x => (HP8.out.mem_iff).trans ⟨fun hx => ?_,fun hx => ?_⟩,by rw [HP8.out.length_eq]; exact hll,HOwn8.out,hb8⟩
     ·obtain ⟨u,hu⟩:=HL3.out x hx
      exact HAll.out.1 _ hu
     ·obtain ⟨u,hu⟩:=HAll.out.2.1 x hx
      exact HVis.out x u (alook_mem x u kl hu)
    ·intro k v1 w1 cnt1 hmem hrg1 hlt1 hg1 hs1 hen
     have HMem:=Lib.hid hmem
     have hb1 : Below w.heap.size w w1:=hbx.grown hg1 hbx.size (fun j hj => by injection hj with hj; subst hj; exact hrw)
     have HBp1 : Hid (Blk w1 pb 261 #[v]):=HBp.out.kept hg1 (by intro e; injection e with e; exact hrp e.symm)
     have hnr : v.ownBlock ≠ some r:=fun e => (HRg.out.rng.ne_row' HOwn.out).2 e.symm
     have HOwn1E : Hid (w1.ownsRow w.heap.size 258 9 v L.length (L.flatMap vlc)):=own_kept HOwn.out hg1 (fun j hj => by injection hj with hj; subst hj; exact .inr hnr)
     have HRg1:=Lib.hid hrg1
     clear hmem hrg1 hg1 y2 hnr
     clear hs1
     go_upto_region 12 with fail
     obtain ⟨w4,hw4⟩ : ∃ w4,w4 = w1.alloc (.cells k.cells 258):=⟨_,rfl⟩
     rw [← hw4]
     have HRg4 : Hid (RngV Vl.val w4 m r kl cnt1 (fun p => VisL L p∨p = (k,v1))):=by unfold Hid; rw [hw4]; exact HRg1.out.alloc _
     have HBp4 : Hid (Blk w4 pb 261 #[v]):=by unfold Hid; rw [hw4]; exact HBp1.out.alloc _
     have HOwn4 : Hid (w4.ownsRow w.heap.size 258 9 v L.length (L.flatMap vlc)):=by unfold Hid; rw [hw4]; exact HOwn1E.out.alloc _
     have hb4 : Below w.heap.size w w4:=by rw [hw4]; exact hb1.alloc hb1.size _
     have hB4 : Blk w4 w1.heap.size 258 k.cells:=by rw [hw4]; exact Blk.new w1 _ _
     clear hw4
     obtain ⟨z,hz⟩ : ∃ z,z = w1.heap.size:=⟨_,rfl⟩
     rw [← hz] at hB4 ⊢
     have x3 : rowAt w4 z 0 9 = some k.cells:=hB4.row 9 rfl
     have y4 : w4.cell? ⟨pb,0,none⟩ = some v:=HBp4.out.cell 0
     clear hB4 hz hen HBp1 HOwn1E hb1
     try go_frame
     go_wp2_with ((first
      | (refine wpList_build1 rfl 261 258 (.tmp 48) rfl k.cells rfl Tryz.underlying261 (by kernel_rfl) (by decide) (by decide) ?_)
      | (at_builtin; refine wpList_app rfl (.tmp 47) (.tmp 49) _ rfl w.heap.size 258 Vl.zero.val 9 16 Tryz.underlying261 info_vl rfl (by decide) v L.length (L.flatMap vlc) rfl ?r0 (w4.heap.size + 1) (some ⟨w4.heap.size,0,none⟩) 1 1 (vlc k) rfl ?r1 ?r2 ?r3 ?r4 ?r5 ?r6 ?_)))
     case r0 => exact HOwn4.out.alloc _
     case r1 => rfl
     case r2 => exact Rd.mk (by omega) (fun j u hu => by rw [Nat.zero_add,(Blk.new w4 _ _).cell]; simpa using hu)
     case r3 => exact fun u hu => one_vl k hu
     case r4 => omega
     case r5 => unfold maxLen; omega
     case r6 => have:=hb4.size; simp; omega
     intro v7 w7 hown7 hg7 hat7
     have hne7 : some pb ≠ v.ownBlock:=own_ne HOwn4.out HBp4.out (by decide)
     have hnn:=HRg4.out.rng.ne_row' HOwn4.out
     have HBp7 : Hid (Blk w7 pb 261 #[v]):=(HBp4.out.alloc _).kept hg7 hne7
     have HRg7 : Hid (RngV Vl.val w7 m r kl cnt1 (fun p => VisL L p∨p = (k,v1))):=(HRg4.out.alloc _).kept hg7 hnn.1 hnn.2
     have hb7 : Below w.heap.size w w7:=below_own (hb4.alloc hb4.size _) (HOwn4.out.alloc _) hg7
     have hne8 : some pb ≠ v7.ownBlock:=own_ne hown7 HBp7.out (by decide)
     obtain ⟨g7,cap7,rfl⟩:=ownsRow_succ hown7
     have HOwn7:=Lib.hid hown7
     have HNe:=Lib.hid hne8
     have y6 : w7.cell? ⟨pb,0,none⟩ = some v:=HBp7.out.cell 0
     have y7 : w7.frozen? ⟨pb,0,none⟩ = false:=HBp7.out.frozen 0
     clear hown7 hg7 hat7 hne7 hnn hne8 y4 x3
     go_wp2
     try go_frame
     have HRg8 : Hid (RngV Vl.val (w7.setCell ⟨pb,0,none⟩ (.slice (some ⟨g7,0,none⟩) (L.length + 1) cap7)) m r kl cnt1 (VisL (L ++ [k]))):=(HRg7.out.kept (one_put (p:=⟨pb,0,none⟩) (one_refl w7 pb) rfl _) (by intro e; injection e with e; exact hmpb e) (by intro e; injection e with e; exact hrp e)).mono (fun p hp => VisL.snoc hp)
     go_roundw
     case rel =>
      refine ⟨cnt1,_,L ++ [k],HRg8.out,HBp7.out.put 0 _,by rw [List.length_append]; simp; omega,?_,?_,hb7.setCell hpw _⟩
      ·intro t ht
       rcases List.mem_append.1 ht with ht | ht
       ·exact HL3.out t ht
       ·rw [List.mem_singleton.1 ht]; exact ⟨v1,HMem.out⟩
      ·have h:=own_kept HOwn7.out (one_put (p:=⟨pb,0,none⟩) (one_refl w7 pb) rfl (.slice (some ⟨g7,0,none⟩) (L.length + 1) cap7)) (fun j hj => by injection hj with hj; subst hj; exact .inr (fun e => HNe.out e.symm))
       rw [List.length_append,List.flatMap_append]
       simpa using h
     case measure => rw [HRg8.out.rng.left_eq,HRg.out.rng.left_eq]; exact hlt1
end
section
open Go.RowKit
theorem wp_store_cell {P : Program} {op : Oper} {a : Act} {w : World} {K : Act→World→Prop} {Q : Exit→Act→World→Prop} (ty : TypeId) (x y : Operand) (ho : op.op = .store ty x y)
  (g i : Nat) (u : Value) (hx : a.eval x = .pointer (some ⟨g,i,none⟩)) (hy : a.eval y = u)
  (t : TypeId) (cs : Array Value) (hB : Blk w g t cs) (hi : i < cs.size) (hz : (P.info? ty).map (·.size) = some 1) (h1 : u.oneCell' = true) (hd : op.dst = none)
  (h : ∀ w',w' = w.setCell ⟨g,i,none⟩ u→Blk w' g t (cs.setIfInBounds i u)→w.grownBy w' (some g)→w'.heap.size = w.heap.size→K a w') : op.wp P a w K Q:=by
 obtain ⟨ie,hie,hs⟩:=Option.map_eq_some_iff.1 hz
 have hrun:=Lib.rl_storeVar_one (P:=P) ty ie hie hs ⟨g,i,none⟩ u cs[i] h1 w (by rw [hB.cell,Array.getElem?_eq_getElem hi]) (hB.frozen i)
 unfold Oper.wp execOp
 simp only [ho,hx,hy,Instr.storeAt,Instr.sureAddr,Sem.run_bind,Sem.run_pure,Result.andThen_ok,hrun]
 have hK:=h _ rfl (hB.put i u) (one_put (one_refl w g) rfl u) (by simp [World.setCell])
 have e : a.put op.dst undef = a:=by rw [hd]; rfl
 rw [← e] at hK
 exact hK
end
end Go.Proofs.YtadllffeoibelaaGreat
