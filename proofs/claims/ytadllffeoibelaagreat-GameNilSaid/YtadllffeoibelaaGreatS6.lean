/-
  What these parts of the proof come to, functions walked and plain laws: Name, Row, SVer, Less, VLess. No condition.
-/
import Derived.Test.YtadllffeoibelaaGreatS5
namespace Go.Proofs.YtadllffeoibelaaGreat
section
open Go.RowKit
theorem encB_len (v : Vt) : (encB v).length = 23:=by simp [encB,Nm.bytes]
set_option maxRecDepth 100000 in
set_option maxHeartbeats 1000000 in
theorem vname_yes (v : Vt) (w : World) (hv : v.ok) (hy : ValidP v) : Calls Tryz.prog 113 #[v.val] w (NmPost w (nameF v)):=by
 have Hy:=Lib.hid hy; clear hy
 obtain ⟨r,hr⟩ : ∃ r,r = nameF v:=⟨_,rfl⟩
 have Hr:=Lib.hid hr; clear hr
 go_enter Tryz.func113,Tryz.ntmps113
 go_wp2_with (refine wpList_load_row rfl 46 _ rfl w.heap.size rfl 46 v.cells (0,0) _ ((Blk.new w _ _).alloc _) Tryz.underlying46 rfl size_vote ?_)
 have hR : Blk ((w.alloc (Obj.cells v.cells 46)).alloc (Obj.cells zero8 24)) (w.heap.size + 1) 24 zero8:=by
  have:=Blk.new (w.alloc (Obj.cells v.cells 46)) 24 zero8
  simpa using this
 have hbW : Below w.heap.size w ((w.alloc (Obj.cells v.cells 46)).alloc (Obj.cells zero8 24)):=((Below.refl _ _).alloc (Nat.le_refl _) _).alloc (by simp) _
 generalize ((w.alloc (Obj.cells v.cells 46)).alloc (Obj.cells zero8 24)) = W at *
 refine (venc_yes v _ hv Hy.out).mono ?_
 rintro e w1 ⟨A1,c1,rfl,hown,hb1⟩
 have hR1:=hR.below hb1 hR.lt
 have hbw1:=hbW.trans (hb1.mono hbW.size)
 have hcall : Calls Tryz.prog 50 #[.int .u8 64,.slice A1 23 c1] w1 (NmPost w1 r):=by
  have h:=tagged_core 64 A1 c1 (encB v) r w1 (Rd.of_own hown) (by rw [encB_len]; omega) (by rw [Hr.out]; rfl)
  rw [encB_len] at h
  exact h
 have HC:=Lib.hid hcall
 clear hcall hR hbW hb1 hown
 go_wp2_with fail
 refine HC.out.mono ?_
 rintro en w3 ⟨rfl,hb3⟩
 have hR3:=hR1.below hb3 hR1.lt
 have hbw3:=hbw1.trans (hb3.mono hbw1.size)
 clear hR1 hbw1 hb3 HC
 go_wp2_with (refine wpList_store_blk rfl 24 (.tmp 2) (.tmp 14) rfl (w.heap.size + 1) _ rfl rfl 24 _ hR3 rfl size_name ?s2 ?_)
 case s2 => exact ⟨rfl,rfl,rfl,rfl,rfl,rfl,rfl,rfl⟩
 intro w4 hR4 hg4 hs4
 have hbw4 : Below w.heap.size w w4:=hbw3.grown hg4 hbw3.size (by rintro j ⟨⟩; omega)
 go_wp2
 exact bodyPost_ret (results_cell_row (g:=w.heap.size + 1) rfl _ _ _ _ _ _ rfl hR4 Tryz.underlying24 rfl size_name) rfl ⟨by rw [← Hr.out],hbw4⟩
end
section
open Go.RowKit
def rowL (w : World) (b : Nat) : Nat→Nat→Option (List Value)
 | _,0 => some []
 | o,n + 1 => match w.cell? ⟨b,o,none⟩,rowL w b (o + 1) n with
  | some u,some r => some (u :: r)
  | _,_ => none
def rowAt (w : World) (b o n : Nat) : Option (Array Value):=(rowL w b o n).map List.toArray
theorem rowL_of {w : World} {b : Nat} : ∀ (l : List Value) (o : Nat),w.rangeAt b o l→rowL w b o l.length = some l
 | [],_,_ => rfl
 | u :: r,o,h => by
  have h0 : w.cell? ⟨b,o,none⟩ = some u:=by simpa using h 0 u rfl
  have h1:=rowL_of r (o + 1) (fun j v hv => by
   have:=h (j + 1) v (by simpa using hv)
   rwa [show o + (j + 1) = o + 1 + j from by omega] at this)
  rw [List.length_cons,rowL,h0,h1]
theorem rowL_back {w : World} {b : Nat} : ∀ (n o : Nat) (l : List Value),rowL w b o n = some l→l.length = n∧w.rangeAt b o l
 | 0,o,l,h => by
  injection h with h; subst h
  exact ⟨rfl,fun j v hv => by simp at hv⟩
 | n + 1,o,l,h => by
  rw [rowL] at h
  split at h
  ·rename_i u r hu hr
   injection h with h; subst h
   obtain ⟨h1,h2⟩:=rowL_back n (o + 1) r hr
   refine ⟨by simp [h1],fun j v hv => ?_⟩
   cases j with
   | zero => simp at hv; subst hv; simpa using hu
   | succ j =>
    have:=h2 j v (by simpa using hv)
    rwa [show o + 1 + j = o + (j + 1) from by omega] at this
  ·cases h
theorem rowAt_of {w : World} {b o n : Nat} {cs : Array Value} (h : w.rangeAt b o cs.toList) (hn : cs.size = n) : rowAt w b o n = some cs:=by
 subst hn
 unfold rowAt
 rw [show cs.size = cs.toList.length from by simp,rowL_of _ _ h]
 simp
theorem rowAt_back {w : World} {b o n : Nat} {cs : Array Value} (h : rowAt w b o n = some cs) : cs.size = n∧w.rangeAt b o cs.toList:=by
 unfold rowAt at h
 cases hr : rowL w b o n with
 | none => rw [hr] at h; cases h
 | some l =>
  rw [hr] at h
  injection h with h; subst h
  obtain ⟨h1,h2⟩:=rowL_back n o l hr
  exact ⟨by simpa using h1,by simpa using h2⟩
theorem rowAt_drew (w : World) (b o n : Nat) : rowAt w.drew b o n = rowAt w b o n:=by
 have : ∀ n o,rowL w.drew b o n = rowL w b o n:=by
  intro n
  induction n with
  | zero => intro o; rfl
  | succ n ih => intro o; rw [rowL,rowL,ih]; rfl
 unfold rowAt; rw [this]
theorem rowAt_drewN (w : World) (k b o n : Nat) : rowAt (w.drewN k) b o n = rowAt w b o n:=by
 have : ∀ n o,rowL (w.drewN k) b o n = rowL w b o n:=by
  intro n
  induction n with
  | zero => intro o; rfl
  | succ n ih => intro o; rw [rowL,rowL,ih]; rfl
 unfold rowAt; rw [this]
theorem Blk.row {w : World} {g t : Nat} {cs : Array Value} (h : Blk w g t cs) (n : Nat) (hn : cs.size = n) : rowAt w g 0 n = some cs :=
 rowAt_of (fun j u hu => by rw [Nat.zero_add,h.cell]; simpa using hu) hn
theorem Blk.part {w : World} {g t : Nat} {cs : Array Value} (h : Blk w g t cs) (o : Nat) (ds : Array Value) (hd : ∀ j u,ds[j]? = some u→cs[o + j]? = some u) : rowAt w g o ds.size = some ds :=
 rowAt_of (fun j u hu => by rw [h.cell]; exact hd j u (by simpa using hu)) rfl
theorem rowAt_below {w w' : World} {B' b o n : Nat} {cs : Array Value} (h : rowAt w b o n = some cs) (hb : Below B' w w') (hg : b < B') : rowAt w' b o n = some cs:=by
 obtain ⟨h1,h2⟩:=rowAt_back h
 exact rowAt_of (fun j u hu => (hb.cell (p:=⟨b,o + j,none⟩) hg).trans (h2 j u hu)) h1
noncomputable def myLoad (t : TypeId) (p : Value) : Sem Value:=Instr.loadAt t p
noncomputable def oldLoad (t : TypeId) (b o : Nat) (w : World) : Result Value:=(Instr.loadAt t (.pointer (some ⟨b,o,none⟩))).run Tryz.prog w
noncomputable def pickRow (t : TypeId) (b o : Nat) (w : World) : Option (Array Value)→Result Value
 | some cs => .ok (.agg cs) w
 | none => oldLoad t b o w
theorem pickRow_some (t : TypeId) (b o : Nat) (w : World) (cs : Array Value) : pickRow t b o w (some cs) = .ok (.agg cs) w:=rfl
theorem run_myLoad (t n b o : Nat) (w : World) (d : TypeDesc) (hu : Tryz.prog.underlying t = some d) (hd : d.isRow = true) (hi : (Tryz.prog.info? t).map (·.size) = some n) :
  (myLoad t (.pointer (some ⟨b,o,none⟩))).run Tryz.prog w = pickRow t b o w (rowAt w b o n):=by
 cases hr : rowAt w b o n with
 | none => rfl
 | some cs =>
  obtain ⟨h1,h2⟩:=rowAt_back hr
  have:=run_loadAt_mid (P:=Tryz.prog) w b o t cs.toList d h2 hu hd (by simpa [h1] using hi)
  simpa [myLoad,pickRow] using this
theorem loadNm (p : Value) : Instr.loadAt 24 p = myLoad 24 p:=rfl
theorem loadVt (p : Value) : Instr.loadAt 46 p = myLoad 46 p:=rfl
theorem loadSg (p : Value) : Instr.loadAt 62 p = myLoad 62 p:=rfl
theorem loadEv (p : Value) : Instr.loadAt 125 p = myLoad 125 p:=rfl
theorem runNm (b o : Nat) (w : World) : (myLoad 24 (.pointer (some ⟨b,o,none⟩))).run Tryz.prog w = pickRow 24 b o w (rowAt w b o 8):=run_myLoad _ 8 b o w _ Tryz.underlying24 rfl size_name
theorem runVt (b o : Nat) (w : World) : (myLoad 46 (.pointer (some ⟨b,o,none⟩))).run Tryz.prog w = pickRow 46 b o w (rowAt w b o 22):=run_myLoad _ 22 b o w _ Tryz.underlying46 rfl size_vote
theorem runSg (b o : Nat) (w : World) : (myLoad 62 (.pointer (some ⟨b,o,none⟩))).run Tryz.prog w = pickRow 62 b o w (rowAt w b o 23):=run_myLoad _ 23 b o w _ Tryz.underlying62 rfl (by kernel_rfl)
theorem runEv (b o : Nat) (w : World) : (myLoad 125 (.pointer (some ⟨b,o,none⟩))).run Tryz.prog w = pickRow 125 b o w (rowAt w b o 46):=run_myLoad _ 46 b o w _ Tryz.underlying125 rfl (by kernel_rfl)
theorem Sg.row_vote {w : World} {g t : Nat} (s : Sg) (h : Blk w g t s.cells) : rowAt w g 0 22 = some s.vote.cells :=
 Blk.part h 0 s.vote.cells (fun j u hu => by rw [Nat.zero_add]; exact s.cell_vote j u hu)
theorem wp_store_blk {P : Program} {op : Oper} {a : Act} {w : World} {K : Act→World→Prop} {Q : Exit→Act→World→Prop} (ty : TypeId) (x y : Operand) (ho : op.op = .store ty x y)
  (g : Nat) (cs : Array Value) (hx : a.eval x = .pointer (some ⟨g,0,none⟩)) (hy : a.eval y = .agg cs)
  (t : TypeId) (old : Array Value) (hB : Blk w g t old) (hsz : old.size = cs.size) (hi : (P.info? ty).map (·.size) = some cs.size) (h1 : ∀ u ∈ cs.toList,u.oneCell' = true) (hd : op.dst = none)
  (h : ∀ w',Blk w' g t cs→w.grownBy w' (some g)→w'.heap.size = w.heap.size→K a w') : op.wp P a w K Q:=by
 have hth : w.there g 0 cs.size:=fun j hj => ⟨by
  rw [Nat.zero_add,hB.cell]
  rw [Array.getElem?_eq_getElem (by omega)]; rfl,hB.frozen _⟩
 refine wp_store_mid ty x y ho g 0 cs hx hy hth hi (Array.all_eq_true_iff_forall_mem.2 fun v hv => h1 v (by simpa using hv)) ?_
 obtain ⟨⟨cur',h2,h3⟩,h4,h5⟩:=setCells_frame g t cs.toList 0 w old hB
 have e : cur' = cs:=by
  apply Array.ext (by omega)
  intro i hi1 hi2
  have:=World.rangeAt_setCells_same w g 0 cs.toList (by simpa using hth) i cs[i] (by simp [hi2])
  rw [Nat.zero_add,h2.cell,Array.getElem?_eq_getElem hi1] at this
  exact Option.some.inj this
 subst e
 rw [hd]
 exact h _ h2 h4 h5
theorem wpAnyH_skipD {P : Program} {ops : Array Oper} {Q : Exit→Act→World→Prop} {md : Region.Mode} {S : World→Prop} {i : Nat} {oi : Oper} {fuel : Nat} {listed : Array Bool} {a : Act} {w : World} (d : Option Tmp) (hi : ops[i]? = some oi) (hd : oi.dst = d)
  (hs : Region.noSelect ops = true) (hf : Region.free md ops listed i = true) (hr : (Region.ready md ops listed).contains i = true)
  (hQ : ∀ c a w,Q (.panic c) (a.put oi.dst undef) w→Q (.panic c) a w) (hw : Region.wanted oi (yielded ops a.tmps) = false) (hS : S w)
  (h : wpAnyH P md ops Q S fuel (listed.setIfInBounds i true) (a.put d undef) w) : wpAnyH P md ops Q S (fuel + 1) listed a w:=by
 subst hd
 exact wpAnyH_take hi hs hf hr hQ (Or.inr ⟨hw,rfl⟩) hS h
theorem wpAnyH_takeD {P : Program} {ops : Array Oper} {Q : Exit→Act→World→Prop} {md : Region.Mode} {S : World→Prop} {i : Nat} {oi : Oper} {v : Value} {fuel : Nat} {listed : Array Bool} {a : Act} {w : World} (d : Option Tmp) (hi : ops[i]? = some oi) (hd : oi.dst = d)
  (hs : Region.noSelect ops = true) (hf : Region.free md ops listed i = true) (hr : (Region.ready md ops listed).contains i = true)
  (hQ : ∀ c a w,Q (.panic c) (a.put oi.dst v) w→Q (.panic c) a w) (hw : Region.wanted oi (yielded ops a.tmps) = true) (hy : ∀ w,S w→(execOp a.eval oi).run P w = .ok (.value v) w) (hS : S w)
  (h : wpAnyH P md ops Q S fuel (listed.setIfInBounds i true) (a.put d v) w) : wpAnyH P md ops Q S (fuel + 1) listed a w:=by
 subst hd
 exact wpAnyH_take hi hs hf hr hQ (Or.inl ⟨hw,hy⟩) hS h
end
section
open Go.RowKit
attribute [local go_sem ↓] Go.wp_at_zero Go.wp_at_succ loadNm loadVt loadSg loadEv
attribute [local go_sem] runNm runVt runSg runEv pickRow_some rowAt_drew rowAt_drewN
def SgCap (s : Sg) : Prop:=s.sig.length≤s.cap∧s.cap≤maxLen
end
section
open Go.RowKit
attribute [local go_sem ↓] Go.wp_at_zero Go.wp_at_succ loadNm loadVt loadSg loadEv
attribute [local go_sem] runNm runVt runSg runEv pickRow_some rowAt_drew rowAt_drewN
set_option maxRecDepth 100000 in
set_option maxHeartbeats 2000000 in
theorem hless_ne (a b : Nm) (w : World) (hne : ¬ a = b) : Calls Tryz.prog 158 #[a.val,b.val] w (BoolPost w (lessN a b)):=by
 have e0 : ∀ W,(Op.equalIn 10000 24 a.val b.val).run Tryz.prog W = .ok false W:=fun W => by
  have:=eqNm a b W 9998
  rwa [decide_eq_false hne] at this
 have hA : Blk ((w.alloc (Obj.cells a.cells 24)).alloc (Obj.cells b.cells 24)) w.heap.size 24 a.cells:=(Blk.new w _ _).alloc _
 have hB : Blk ((w.alloc (Obj.cells a.cells 24)).alloc (Obj.cells b.cells 24)) (w.heap.size + 1) 24 b.cells:=by
  have:=Blk.new (w.alloc (Obj.cells a.cells 24)) 24 b.cells
  simpa using this
 have hbW : Below w.heap.size w ((w.alloc (Obj.cells a.cells 24)).alloc (Obj.cells b.cells 24)):=((Below.refl _ _).alloc (Nat.le_refl _) _).alloc (by simp) _
 have x0:=hA.row 8 rfl
 have y0:=hB.row 8 rfl
 go_enter Tryz.func158,Tryz.ntmps158
 go_wp2
 generalize ((w.alloc (Obj.cells a.cells 24)).alloc (Obj.cells b.cells 24)) = W at *
 obtain ⟨na,hna⟩ : ∃ n,n = numN a.bytes:=⟨_,rfl⟩
 obtain ⟨nb,hnb⟩ : ∃ n,n = numN b.bytes:=⟨_,rfl⟩
 have HA : Hid (∀ W,Calls Tryz.prog 182 #[a.val] W (NumPost W na)):=fun W => by rw [hna]; exact number_any a W
 have HB : Hid (∀ W,Calls Tryz.prog 182 #[b.val] W (NumPost W nb)):=fun W => by rw [hnb]; exact number_any b W
 have hr : lessN a b = decide (na < nb):=by rw [hna,hnb]; rfl
 have Hr:=Lib.hid hr
 clear hr hna hnb
 go_region_held3 (fun w' => rowAt w' w.heap.size 0 8 = some a.cells∧rowAt w' (w.heap.size + 1) 0 8 = some b.cells) (first | exact ⟨x2,y2⟩ | exact ⟨x0,y0⟩)
  ((first
   | (go_at_call 182; (first | (with_reducible refine (HA.out _).mono ?_) | (with_reducible refine (HB.out _).mono ?_)); rintro en w2 ⟨rfl,hb2⟩; have hA2 : Blk w2 w.heap.size 24 a.cells:=(by first | exact hA2.below hb2 hA2.lt | exact hA.drew.below hb2 hA.lt); have hB2 : Blk w2 (w.heap.size + 1) 24 b.cells:=(by first | exact hB2.below hb2 hB2.lt | exact hB.drew.below hb2 hB.lt); have hbw2 : Below w.heap.size w w2:=(by first | exact hbw2.trans (hb2.mono hbw2.size) | exact hbW.trans (((Below.refl _ _).drew.trans hb2).mono hbW.size)); have x2:=hA2.row 8 rfl; have y2:=hB2.row 8 rfl)))
 all_goals
  go_wp2
  go_ret
  exact ⟨by rw [Hr.out]; exact ret_b (by simp),hbw2⟩
set_option maxRecDepth 100000 in
set_option maxHeartbeats 2000000 in
theorem hless_any (a b : Nm) (w : World) : Calls Tryz.prog 158 #[a.val,b.val] w (BoolPost w (lessN a b)):=by
 by_cases hne : a = b
 ·subst hne
  have e0 : ∀ W,(Op.equalIn 10000 24 a.val a.val).run Tryz.prog W = .ok true W:=fun W => by
   have:=eqNm a a W 9998
   rwa [decide_eq_true rfl] at this
  have hr : lessN a a = false:=by simp [lessN]
  have Hr:=Lib.hid hr; clear hr
  have hA : Blk ((w.alloc (Obj.cells a.cells 24)).alloc (Obj.cells a.cells 24)) w.heap.size 24 a.cells:=(Blk.new w _ _).alloc _
  have hB : Blk ((w.alloc (Obj.cells a.cells 24)).alloc (Obj.cells a.cells 24)) (w.heap.size + 1) 24 a.cells:=by
   have:=Blk.new (w.alloc (Obj.cells a.cells 24)) 24 a.cells
   simpa using this
  have x0:=hA.row 8 rfl
  have y0:=hB.row 8 rfl
  clear hA hB
  go_enter Tryz.func158,Tryz.ntmps158
  go_wp2
  go_ret
  exact ⟨by rw [Hr.out]; rfl,((Below.refl _ _).alloc (Nat.le_refl _) _).alloc (by simp) _⟩
 ·exact hless_ne a b w hne
end
section
open Go.RowKit
attribute [local go_sem ↓] Go.wp_at_zero Go.wp_at_succ loadNm loadVt loadSg loadEv
attribute [local go_sem] runNm runVt runSg runEv pickRow_some rowAt_drew rowAt_drewN
def five (v : Vt) : List Int:=[v.slot,v.round,v.kind,v.signer,v.choice]
theorem five_cell (v : Vt) (k : Nat) (h : k < 5) : (#[I v.slot,I v.round,I v.kind,I v.signer,I v.choice] : Array Value)[k]? = some (I ((five v).getD k 0)):=by
 rcases (by omega : k = 0∨k = 1∨k = 2∨k = 3∨k = 4) with rfl | rfl | rfl | rfl | rfl <;> rfl
theorem lessV_at (a b : Vt) (k : Nat) (hk : k < 5) (hp : a.parent = b.parent) (h : ∀ j,j < k→(five a).getD j 0 = (five b).getD j 0) (hne : ¬ (five a).getD k 0 = (five b).getD k 0) :
  lessV a b = decide ((five a).getD k 0 < (five b).getD k 0):=by
 have h0 : 0 < k→a.slot = b.slot:=fun hh => h 0 hh
 have h1 : 1 < k→a.round = b.round:=fun hh => h 1 hh
 have h2 : 2 < k→a.kind = b.kind:=fun hh => h 2 hh
 have h3 : 3 < k→a.signer = b.signer:=fun hh => h 3 hh
 clear h
 unfold lessV
 rw [if_pos hp]
 rcases (by omega : k = 0∨k = 1∨k = 2∨k = 3∨k = 4) with rfl | rfl | rfl | rfl | rfl
 ·have hne' : ¬ a.slot = b.slot:=hne
  rw [if_neg hne']; rfl
 ·have hne' : ¬ a.round = b.round:=hne
  rw [if_pos (h0 (by omega)),if_neg hne']; rfl
 ·have hne' : ¬ a.kind = b.kind:=hne
  rw [if_pos (h0 (by omega)),if_pos (h1 (by omega)),if_neg hne']; rfl
 ·have hne' : ¬ a.signer = b.signer:=hne
  rw [if_pos (h0 (by omega)),if_pos (h1 (by omega)),if_pos (h2 (by omega)),if_neg hne']; rfl
 ·have hne' : ¬ a.choice = b.choice:=hne
  rw [if_pos (h0 (by omega)),if_pos (h1 (by omega)),if_pos (h2 (by omega)),if_pos (h3 (by omega)),if_neg hne']; rfl
theorem lessV_end (a b : Vt) (hp : a.parent = b.parent) (h : ∀ j,j < 5→(five a).getD j 0 = (five b).getD j 0) :
  lessV a b = if a.value = b.value then decide (a.support < b.support) else lessN a.value b.value:=by
 have h0 : a.slot = b.slot:=h 0 (by omega)
 have h1 : a.round = b.round:=h 1 (by omega)
 have h2 : a.kind = b.kind:=h 2 (by omega)
 have h3 : a.signer = b.signer:=h 3 (by omega)
 have h4 : a.choice = b.choice:=h 4 (by omega)
 unfold lessV
 rw [if_pos hp,if_pos h0,if_pos h1,if_pos h2,if_pos h3,if_pos h4]
theorem Vt.row_parent {w : World} {g t : Nat} (v : Vt) (h : Blk w g t v.cells) : rowAt w g 6 8 = some v.parent.cells :=
 Blk.part h 6 v.parent.cells (fun j u hu => by
  have hj : j < 8:=(Array.getElem?_eq_some_iff.1 hu).1
  rcases (by omega : j = 0∨j = 1∨j = 2∨j = 3∨j = 4∨j = 5∨j = 6∨j = 7) with rfl | rfl | rfl | rfl | rfl | rfl | rfl | rfl <;> exact hu)
theorem Vt.row_value {w : World} {g t : Nat} (v : Vt) (h : Blk w g t v.cells) : rowAt w g 14 8 = some v.value.cells :=
 Blk.part h 14 v.value.cells (fun j u hu => by
  have hj : j < 8:=(Array.getElem?_eq_some_iff.1 hu).1
  rcases (by omega : j = 0∨j = 1∨j = 2∨j = 3∨j = 4∨j = 5∨j = 6∨j = 7) with rfl | rfl | rfl | rfl | rfl | rfl | rfl | rfl <;> exact hu)
set_option maxRecDepth 100000 in
set_option maxHeartbeats 4000000 in
theorem vless_ne (a b : Vt) (w : World) (hp : ¬ a.parent = b.parent) : Calls Tryz.prog 109 #[a.val,b.val] w (BoolPost w (lessV a b)):=by
 have e1 : ∀ W,(Op.equalIn 10000 24 a.parent.val b.parent.val).run Tryz.prog W = .ok false W:=fun W => by
  have:=eqNm a.parent b.parent W 9998
  rwa [decide_eq_false hp] at this
 have hr : lessV a b = lessN a.parent b.parent:=by unfold lessV; rw [if_neg hp]
 have Hr:=Lib.hid hr; clear hr hp
 have hA : Blk ((w.alloc (Obj.cells a.cells 46)).alloc (Obj.cells b.cells 46)) w.heap.size 46 a.cells:=(Blk.new w _ _).alloc _
 have hB : Blk ((w.alloc (Obj.cells a.cells 46)).alloc (Obj.cells b.cells 46)) (w.heap.size + 1) 46 b.cells:=by
  have:=Blk.new (w.alloc (Obj.cells a.cells 46)) 46 b.cells
  simpa using this
 have hbW : Below w.heap.size w ((w.alloc (Obj.cells a.cells 46)).alloc (Obj.cells b.cells 46)):=((Below.refl _ _).alloc (Nat.le_refl _) _).alloc (by simp) _
 have x0:=a.row_parent hA
 have y0:=b.row_parent hB
 go_enter Tryz.func109,Tryz.ntmps109
 go_wp2_with fail
 refine (hless_any a.parent b.parent _).mono ?_
 rintro en w2 ⟨rfl,hb2⟩
 go_wp2
 go_ret
 exact ⟨by rw [Hr.out]; rfl,hbW.trans (hb2.mono hbW.size)⟩
set_option maxRecDepth 100000 in
set_option maxHeartbeats 4000000 in
theorem vless_eq (a b : Vt) (w : World) (hp : a.parent = b.parent) : Calls Tryz.prog 109 #[a.val,b.val] w (BoolPost w (lessV a b)):=by
 have e1 : ∀ W,(Op.equalIn 10000 24 a.parent.val b.parent.val).run Tryz.prog W = .ok true W:=fun W => by
  have:=eqNm a.parent b.parent W 9998
  rwa [decide_eq_true hp] at this
 have Hp:=Lib.hid hp; clear hp
 have hA : Blk ((w.alloc (Obj.cells a.cells 46)).alloc (Obj.cells b.cells 46)) w.heap.size 46 a.cells:=(Blk.new w _ _).alloc _
 have hB : Blk ((w.alloc (Obj.cells a.cells 46)).alloc (Obj.cells b.cells 46)) (w.heap.size + 1) 46 b.cells:=by
  have:=Blk.new (w.alloc (Obj.cells a.cells 46)) 46 b.cells
  simpa using this
 have hbW : Below w.heap.size w ((w.alloc (Obj.cells a.cells 46)).alloc (Obj.cells b.cells 46)):=((Below.refl _ _).alloc (Nat.le_refl _) _).alloc (by simp) _
 have x0:=a.row_parent hA
 have y0:=b.row_parent hB
 clear hA hB hbW
 go_enter Tryz.func109,Tryz.ntmps109
 go_wp2_with fail
 clear x0 y0 e1
 have hA : Blk ((((w.alloc (Obj.cells a.cells 46)).alloc (Obj.cells b.cells 46)).alloc (Obj.cells #[I a.slot,I a.round,I a.kind,I a.signer,I a.choice] 206)).alloc (Obj.cells #[I b.slot,I b.round,I b.kind,I b.signer,I b.choice] 206)) w.heap.size 46 a.cells:=(((Blk.new w _ _).alloc _).alloc _).alloc _
 have hB : Blk ((((w.alloc (Obj.cells a.cells 46)).alloc (Obj.cells b.cells 46)).alloc (Obj.cells #[I a.slot,I a.round,I a.kind,I a.signer,I a.choice] 206)).alloc (Obj.cells #[I b.slot,I b.round,I b.kind,I b.signer,I b.choice] 206)) (w.heap.size + 1) 46 b.cells:=by
  have:=((Blk.new (w.alloc (Obj.cells a.cells 46)) 46 b.cells).alloc (Obj.cells #[I a.slot,I a.round,I a.kind,I a.signer,I a.choice] 206)).alloc (Obj.cells #[I b.slot,I b.round,I b.kind,I b.signer,I b.choice] 206)
  simpa using this
 have hX : Blk ((((w.alloc (Obj.cells a.cells 46)).alloc (Obj.cells b.cells 46)).alloc (Obj.cells #[I a.slot,I a.round,I a.kind,I a.signer,I a.choice] 206)).alloc (Obj.cells #[I b.slot,I b.round,I b.kind,I b.signer,I b.choice] 206)) (w.heap.size + 1 + 1) 206 #[I a.slot,I a.round,I a.kind,I a.signer,I a.choice]:=by
  have:=(Blk.new ((w.alloc (Obj.cells a.cells 46)).alloc (Obj.cells b.cells 46)) 206 #[I a.slot,I a.round,I a.kind,I a.signer,I a.choice]).alloc (Obj.cells #[I b.slot,I b.round,I b.kind,I b.signer,I b.choice] 206)
  simpa using this
 have hY : Blk ((((w.alloc (Obj.cells a.cells 46)).alloc (Obj.cells b.cells 46)).alloc (Obj.cells #[I a.slot,I a.round,I a.kind,I a.signer,I a.choice] 206)).alloc (Obj.cells #[I b.slot,I b.round,I b.kind,I b.signer,I b.choice] 206)) (w.heap.size + 1 + 1 + 1) 206 #[I b.slot,I b.round,I b.kind,I b.signer,I b.choice]:=by
  have:=Blk.new (((w.alloc (Obj.cells a.cells 46)).alloc (Obj.cells b.cells 46)).alloc (Obj.cells #[I a.slot,I a.round,I a.kind,I a.signer,I a.choice] 206)) 206 #[I b.slot,I b.round,I b.kind,I b.signer,I b.choice]
  simpa using this
 have hbW : Below w.heap.size w ((((w.alloc (Obj.cells a.cells 46)).alloc (Obj.cells b.cells 46)).alloc (Obj.cells #[I a.slot,I a.round,I a.kind,I a.signer,I a.choice] 206)).alloc (Obj.cells #[I b.slot,I b.round,I b.kind,I b.signer,I b.choice] 206)):=((((Below.refl _ _).alloc (Nat.le_refl _) _).alloc (by simp) _).alloc (by simp; omega) _).alloc (by simp; omega) _
 generalize ((((w.alloc (Obj.cells a.cells 46)).alloc (Obj.cells b.cells 46)).alloc (Obj.cells #[I a.slot,I a.round,I a.kind,I a.signer,I a.choice] 206)).alloc (Obj.cells #[I b.slot,I b.round,I b.kind,I b.signer,I b.choice] 206)) = W at *
 go_loopw [40] (fun i wr => ∃ k n : Nat,k≤5∧i = .int .i64 k∧wr = W.drewN n∧∀ j,j < k→(five a).getD j 0 = (five b).getD j 0) (fun i _ => 5 - (intOf i).toNat)
 case atStart => exact ⟨0,0,by omega,rfl,rfl,fun j hj => by omega⟩
 case round =>
  obtain ⟨k,n,hk,rfl,rfl,heq⟩:=hrel
  have Heq:=Lib.hid heq; clear heq
  by_cases hlt : k < 5
  ·have c1 : W.cell? ⟨w.heap.size + 1 + 1,k,none⟩ = some (I ((five a).getD k 0)):=(hX.cell k).trans (five_cell a k hlt)
   have c2 : W.cell? ⟨w.heap.size + 1 + 1 + 1,k,none⟩ = some (I ((five b).getD k 0)):=(hY.cell k).trans (five_cell b k hlt)
   have i1 : (0 : Int)≤(k : Int):=by omega
   have i2 : (k : Int) < 5:=by omega
   by_cases hne : (five a).getD k 0 = (five b).getD k 0
   ·have E : Hid (∀ j,j < k + 1→(five a).getD j 0 = (five b).getD j 0):=fun j hj => by
     rcases Nat.lt_or_ge j k with h | h
     ·exact Heq.out j h
     ·obtain rfl : j = k:=by omega
      exact hne
    have hb : (((five a).getD k 0) != ((five b).getD k 0)) = false:=by rw [hne]; exact bne_self_eq_false _
    clear hne
    generalize (five a).getD k 0 = x at *
    generalize (five b).getD k 0 = y at *
    go_wp2
    go_quiet (fail)
    go_wp2
    go_roundw
    case rel => exact ⟨k + 1,_,by omega,by go_num,rfl,E.out⟩
    case measure => simp [intOf]; omega
   ·have hr:=lessV_at a b k hlt Hp.out Heq.out hne
    have Hr:=Lib.hid hr
    have hb : (((five a).getD k 0) != ((five b).getD k 0)) = true:=by simpa using hne
    clear hne hr
    generalize (five a).getD k 0 = x at *
    generalize (five b).getD k 0 = y at *
    go_wp2
    go_quiet (fail)
    go_wp2
    go_quiet (fail)
    go_wp2
    go_ret
    exact ⟨by rw [Hr.out]; rfl,below_drewN (below_drewN (below_drewN hbW _) _) _⟩
  ·obtain rfl : k = 5:=by omega
   have hr:=lessV_end a b Hp.out Heq.out
   have x0:=a.row_value hA
   have y0:=b.row_value hB
   have s1 : W.cell? ⟨w.heap.size,5,none⟩ = some (I a.support):=hA.cell 5
   have s2 : W.cell? ⟨w.heap.size + 1,5,none⟩ = some (I b.support):=hB.cell 5
   by_cases hv : a.value = b.value
   ·have e2 : ∀ W,(Op.equalIn 10000 24 a.value.val b.value.val).run Tryz.prog W = .ok true W:=fun W => by
     have:=eqNm a.value b.value W 9998
     rwa [decide_eq_true hv] at this
    rw [if_pos hv] at hr
    have Hr:=Lib.hid hr; clear hr hv
    go_wp2
    go_ret
    exact ⟨by rw [Hr.out]; rfl,below_drewN hbW _⟩
   ·have e2 : ∀ W,(Op.equalIn 10000 24 a.value.val b.value.val).run Tryz.prog W = .ok false W:=fun W => by
     have:=eqNm a.value b.value W 9998
     rwa [decide_eq_false hv] at this
    rw [if_neg hv] at hr
    have Hr:=Lib.hid hr; clear hr hv
    go_wp2_with fail
    refine (hless_any a.value b.value _).mono ?_
    rintro en w2 ⟨rfl,hb2⟩
    have hbw:=below_drewN hbW n
    go_wp2
    go_ret
    exact ⟨by rw [Hr.out]; rfl,hbw.trans (hb2.mono hbw.size)⟩
theorem vless_any (a b : Vt) (w : World) : Calls Tryz.prog 109 #[a.val,b.val] w (BoolPost w (lessV a b)):=by
 by_cases hp : a.parent = b.parent
 ·exact vless_eq a b w hp
 ·exact vless_ne a b w hp
end
end Go.Proofs.YtadllffeoibelaaGreat
