/-
  The reference's Verify at two levels returns whether a signature verifies (verF), and changes nothing that was there. Condition: the signature's bytes lie in memory below the call.
  vote.Name and the reference's VoteName return the name that a signer of a valid vote signs, and change nothing that was there. Condition: the vote is valid and its numbers are int64's.
  Whole structs and arrays are loaded in one step, wherever the load stands: the rule for the walk's own simp. No condition.
  signed.Verify and the reference's Verify return whether a signed vote verifies under a key (verS), and change nothing that was there. Condition: the signed vote lies in memory below the call.
-/
import Derived.Test.YthmecidpjlaonaaGreatSGVer
import Derived.Test.YthmecidpjlaonaaGreatSGOne
namespace Go.Proofs.YthmecidpjlaonaaGreat
open Go.RowKit
attribute [local go_sem ↓] Go.wp_at_zero Go.wp_at_succ
/-- A slice that reads as a list of names. -/
def ListV (w : World) (v : Value) (n : Nat) (l : List Nm) : Prop := ∃ A c, v = .slice A n c ∧ n ≤ c ∧ Rd w w.heap.size A (l.flatMap nmc)
theorem ListV.alloc {w : World} {v : Value} {n : Nat} {l : List Nm} (h : ListV w v n l) (o : Obj) : ListV (w.alloc o) v n l := by
  obtain ⟨A, c, rfl, hc, hr⟩ := h
  exact ⟨A, c, rfl, hc, (hr.alloc (Nat.le_refl _) o).more (by simp)⟩
end Go.Proofs.YthmecidpjlaonaaGreat
namespace Go.Proofs.YthmecidpjlaonaaGreat
open Go.RowKit

theorem encB_len (v : Vt) : (encB v).length = 23 := by simp [encB, Nm.bytes]

set_option maxRecDepth 100000 in
set_option maxHeartbeats 1000000 in
theorem vname_yes (v : Vt) (w : World) (hv : v.ok) (hy : ValidP v) : Calls Tryz.prog 58 #[v.val] w (NmPost w (nameF v)) := by
  have Hy := Lib.hid hy; clear hy
  obtain ⟨r, hr⟩ : ∃ r, r = nameF v := ⟨_, rfl⟩
  have Hr := Lib.hid hr; clear hr
  go_enter Tryz.func58, Tryz.ntmps58
  go_wp2_with (refine wpList_load_row rfl 31 _ rfl w.heap.size rfl 31 v.cells (0, 0) _ ((Blk.new w _ _).alloc _) Tryz.underlying31 rfl size_vote ?_)
  have hR : Blk ((w.alloc (Obj.cells v.cells 31)).alloc (Obj.cells zero8 29)) (w.heap.size + 1) 29 zero8 := by
    have := Blk.new (w.alloc (Obj.cells v.cells 31)) 29 zero8
    simpa using this
  have hbW : Below w.heap.size w ((w.alloc (Obj.cells v.cells 31)).alloc (Obj.cells zero8 29)) := ((Below.refl _ _).alloc (Nat.le_refl _) _).alloc (by simp) _
  generalize ((w.alloc (Obj.cells v.cells 31)).alloc (Obj.cells zero8 29)) = W at *
  refine (venc_yes v _ hv Hy.out).mono ?_
  rintro e w1 ⟨A1, c1, rfl, hown, hb1⟩
  have hR1 := hR.below hb1 hR.lt
  have hbw1 := hbW.trans (hb1.mono hbW.size)
  have hcall : Calls Tryz.prog 96 #[.int .u8 64, .slice A1 23 c1] w1 (NmPost w1 r) := by
    have h := tagged_core 64 A1 c1 (encB v) r w1 (Rd.of_own hown) (by rw [encB_len]; omega) (by rw [Hr.out]; rfl)
    rw [encB_len] at h
    exact h
  have HC := Lib.hid hcall
  clear hcall hR hbW hb1 hown
  go_wp2_with fail
  refine HC.out.mono ?_
  rintro en w3 ⟨rfl, hb3⟩
  have hR3 := hR1.below hb3 hR1.lt
  have hbw3 := hbw1.trans (hb3.mono hbw1.size)
  clear hR1 hbw1 hb3 HC
  go_wp2_with (refine wpList_store_blk rfl 29 (.tmp 2) (.tmp 14) rfl (w.heap.size + 1) _ rfl rfl 29 _ hR3 rfl size_name ?s2 ?_)
  case s2 => exact ⟨rfl, rfl, rfl, rfl, rfl, rfl, rfl, rfl⟩
  intro w4 hR4 hg4 hs4
  have hbw4 : Below w.heap.size w w4 := hbw3.grown hg4 hbw3.size (by rintro j ⟨⟩; omega)
  go_wp2
  exact bodyPost_ret (results_cell_row (g := w.heap.size + 1) rfl _ _ _ _ _ _ rfl hR4 Tryz.underlying29 rfl size_name) rfl ⟨by rw [← Hr.out], hbw4⟩

end Go.Proofs.YthmecidpjlaonaaGreat
namespace Go.Proofs.YthmecidpjlaonaaGreat
open Go.RowKit

/-- n cells of block b from offset o on. -/
def rowL (w : World) (b : Nat) : Nat → Nat → Option (List Value)
  | _, 0 => some []
  | o, n + 1 => match w.cell? ⟨b, o, none⟩, rowL w b (o + 1) n with
    | some u, some r => some (u :: r)
    | _, _ => none
def rowAt (w : World) (b o n : Nat) : Option (Array Value) := (rowL w b o n).map List.toArray
theorem rowL_of {w : World} {b : Nat} : ∀ (l : List Value) (o : Nat), w.rangeAt b o l → rowL w b o l.length = some l
  | [], _, _ => rfl
  | u :: r, o, h => by
    have h0 : w.cell? ⟨b, o, none⟩ = some u := by simpa using h 0 u rfl
    have h1 := rowL_of r (o + 1) (fun j v hv => by
      have := h (j + 1) v (by simpa using hv)
      rwa [show o + (j + 1) = o + 1 + j from by omega] at this)
    rw [List.length_cons, rowL, h0, h1]
theorem rowL_back {w : World} {b : Nat} : ∀ (n o : Nat) (l : List Value), rowL w b o n = some l → l.length = n ∧ w.rangeAt b o l
  | 0, o, l, h => by
    injection h with h; subst h
    exact ⟨rfl, fun j v hv => by simp at hv⟩
  | n + 1, o, l, h => by
    rw [rowL] at h
    split at h
    · rename_i u r hu hr
      injection h with h; subst h
      obtain ⟨h1, h2⟩ := rowL_back n (o + 1) r hr
      refine ⟨by simp [h1], fun j v hv => ?_⟩
      cases j with
      | zero => simp at hv; subst hv; simpa using hu
      | succ j =>
        have := h2 j v (by simpa using hv)
        rwa [show o + 1 + j = o + (j + 1) from by omega] at this
    · cases h
theorem rowAt_of {w : World} {b o n : Nat} {cs : Array Value} (h : w.rangeAt b o cs.toList) (hn : cs.size = n) : rowAt w b o n = some cs := by
  subst hn
  unfold rowAt
  rw [show cs.size = cs.toList.length from by simp, rowL_of _ _ h]
  simp
theorem rowAt_back {w : World} {b o n : Nat} {cs : Array Value} (h : rowAt w b o n = some cs) : cs.size = n ∧ w.rangeAt b o cs.toList := by
  unfold rowAt at h
  cases hr : rowL w b o n with
  | none => rw [hr] at h; cases h
  | some l =>
    rw [hr] at h
    injection h with h; subst h
    obtain ⟨h1, h2⟩ := rowL_back n o l hr
    exact ⟨by simpa using h1, by simpa using h2⟩
theorem rowAt_drew (w : World) (b o n : Nat) : rowAt w.drew b o n = rowAt w b o n := by
  have : ∀ n o, rowL w.drew b o n = rowL w b o n := by
    intro n
    induction n with
    | zero => intro o; rfl
    | succ n ih => intro o; rw [rowL, rowL, ih]; rfl
  unfold rowAt; rw [this]
theorem rowAt_drewN (w : World) (k b o n : Nat) : rowAt (w.drewN k) b o n = rowAt w b o n := by
  have : ∀ n o, rowL (w.drewN k) b o n = rowL w b o n := by
    intro n
    induction n with
    | zero => intro o; rfl
    | succ n ih => intro o; rw [rowL, rowL, ih]; rfl
  unfold rowAt; rw [this]
theorem Blk.row {w : World} {g t : Nat} {cs : Array Value} (h : Blk w g t cs) (n : Nat) (hn : cs.size = n) : rowAt w g 0 n = some cs :=
  rowAt_of (fun j u hu => by rw [Nat.zero_add, h.cell]; simpa using hu) hn
/-- A part of a block. -/
theorem Blk.part {w : World} {g t : Nat} {cs : Array Value} (h : Blk w g t cs) (o : Nat) (ds : Array Value) (hd : ∀ j u, ds[j]? = some u → cs[o + j]? = some u) : rowAt w g o ds.size = some ds :=
  rowAt_of (fun j u hu => by rw [h.cell]; exact hd j u (by simpa using hu)) rfl
theorem rowAt_below {w w' : World} {B' b o n : Nat} {cs : Array Value} (h : rowAt w b o n = some cs) (hb : Below B' w w') (hg : b < B') : rowAt w' b o n = some cs := by
  obtain ⟨h1, h2⟩ := rowAt_back h
  exact rowAt_of (fun j u hu => (hb.cell (p := ⟨b, o + j, none⟩) hg).trans (h2 j u hu)) h1

/-- The load of type t, closed to the walk's simp. -/
noncomputable def myLoad (t : TypeId) (p : Value) : Sem Value := Instr.loadAt t p
noncomputable def oldLoad (t : TypeId) (b o : Nat) (w : World) : Result Value := (Instr.loadAt t (.pointer (some ⟨b, o, none⟩))).run Tryz.prog w
/-- What the load gives where the cells are known. -/
noncomputable def pickRow (t : TypeId) (b o : Nat) (w : World) : Option (Array Value) → Result Value
  | some cs => .ok (.agg cs) w
  | none => oldLoad t b o w
theorem pickRow_some (t : TypeId) (b o : Nat) (w : World) (cs : Array Value) : pickRow t b o w (some cs) = .ok (.agg cs) w := rfl
theorem run_myLoad (t n b o : Nat) (w : World) (d : TypeDesc) (hu : Tryz.prog.underlying t = some d) (hd : d.isRow = true) (hi : (Tryz.prog.info? t).map (·.size) = some n) :
    (myLoad t (.pointer (some ⟨b, o, none⟩))).run Tryz.prog w = pickRow t b o w (rowAt w b o n) := by
  cases hr : rowAt w b o n with
  | none => rfl
  | some cs =>
    obtain ⟨h1, h2⟩ := rowAt_back hr
    have := run_loadAt_mid (P := Tryz.prog) w b o t cs.toList d h2 hu hd (by simpa [h1] using hi)
    simpa [myLoad, pickRow] using this
theorem loadNm (p : Value) : Instr.loadAt 29 p = myLoad 29 p := rfl
theorem loadVt (p : Value) : Instr.loadAt 31 p = myLoad 31 p := rfl
theorem loadSg (p : Value) : Instr.loadAt 34 p = myLoad 34 p := rfl
theorem loadEv (p : Value) : Instr.loadAt 51 p = myLoad 51 p := rfl
theorem runNm (b o : Nat) (w : World) : (myLoad 29 (.pointer (some ⟨b, o, none⟩))).run Tryz.prog w = pickRow 29 b o w (rowAt w b o 8) := run_myLoad _ 8 b o w _ Tryz.underlying29 rfl size_name
theorem runVt (b o : Nat) (w : World) : (myLoad 31 (.pointer (some ⟨b, o, none⟩))).run Tryz.prog w = pickRow 31 b o w (rowAt w b o 22) := run_myLoad _ 22 b o w _ Tryz.underlying31 rfl size_vote
theorem runSg (b o : Nat) (w : World) : (myLoad 34 (.pointer (some ⟨b, o, none⟩))).run Tryz.prog w = pickRow 34 b o w (rowAt w b o 23) := run_myLoad _ 23 b o w _ Tryz.underlying34 rfl (by kernel_rfl)
theorem runEv (b o : Nat) (w : World) : (myLoad 51 (.pointer (some ⟨b, o, none⟩))).run Tryz.prog w = pickRow 51 b o w (rowAt w b o 46) := run_myLoad _ 46 b o w _ Tryz.underlying51 rfl (by kernel_rfl)
theorem Sg.row_vote {w : World} {g t : Nat} (s : Sg) (h : Blk w g t s.cells) : rowAt w g 0 22 = some s.vote.cells :=
  Blk.part h 0 s.vote.cells (fun j u hu => by rw [Nat.zero_add]; exact s.cell_vote j u hu)
/-- A whole struct or array stored into a block of its own size, at a step of a region that draws its order. -/
theorem wp_store_blk {P : Program} {op : Oper} {a : Act} {w : World} {K : Act → World → Prop} {Q : Exit → Act → World → Prop} (ty : TypeId) (x y : Operand) (ho : op.op = .store ty x y)
    (g : Nat) (cs : Array Value) (hx : a.eval x = .pointer (some ⟨g, 0, none⟩)) (hy : a.eval y = .agg cs)
    (t : TypeId) (old : Array Value) (hB : Blk w g t old) (hsz : old.size = cs.size) (hi : (P.info? ty).map (·.size) = some cs.size) (h1 : ∀ u ∈ cs.toList, u.oneCell' = true) (hd : op.dst = none)
    (h : ∀ w', Blk w' g t cs → w.grownBy w' (some g) → w'.heap.size = w.heap.size → K a w') : op.wp P a w K Q := by
  have hth : w.there g 0 cs.size := fun j hj => ⟨by
    rw [Nat.zero_add, hB.cell]
    rw [Array.getElem?_eq_getElem (by omega)]; rfl, hB.frozen _⟩
  refine wp_store_mid ty x y ho g 0 cs hx hy hth hi (Array.all_eq_true_iff_forall_mem.2 fun v hv => h1 v (by simpa using hv)) ?_
  obtain ⟨⟨cur', h2, h3⟩, h4, h5⟩ := setCells_frame g t cs.toList 0 w old hB
  have e : cur' = cs := by
    apply Array.ext (by omega)
    intro i hi1 hi2
    have := World.rangeAt_setCells_same w g 0 cs.toList (by simpa using hth) i cs[i] (by simp [hi2])
    rw [Nat.zero_add, h2.cell, Array.getElem?_eq_getElem hi1] at this
    exact Option.some.inj this
  subst e
  rw [hd]
  exact h _ h2 h4 h5
/-- In a region that draws its order: an operation that its guard puts off is passed over; its slot is named. -/
theorem wpAnyH_skipD {P : Program} {ops : Array Oper} {Q : Exit → Act → World → Prop} {md : Region.Mode} {S : World → Prop} {i : Nat} {oi : Oper} {fuel : Nat} {listed : Array Bool} {a : Act} {w : World} (d : Option Tmp) (hi : ops[i]? = some oi) (hd : oi.dst = d)
    (hs : Region.noSelect ops = true) (hf : Region.free md ops listed i = true) (hr : (Region.ready md ops listed).contains i = true)
    (hQ : ∀ c a w, Q (.panic c) (a.put oi.dst undef) w → Q (.panic c) a w) (hw : Region.wanted oi (yielded ops a.tmps) = false) (hS : S w)
    (h : wpAnyH P md ops Q S fuel (listed.setIfInBounds i true) (a.put d undef) w) : wpAnyH P md ops Q S (fuel + 1) listed a w := by
  subst hd
  exact wpAnyH_take hi hs hf hr hQ (Or.inr ⟨hw, rfl⟩) hS h
/-- The like for an operation that is taken first. -/
theorem wpAnyH_takeD {P : Program} {ops : Array Oper} {Q : Exit → Act → World → Prop} {md : Region.Mode} {S : World → Prop} {i : Nat} {oi : Oper} {v : Value} {fuel : Nat} {listed : Array Bool} {a : Act} {w : World} (d : Option Tmp) (hi : ops[i]? = some oi) (hd : oi.dst = d)
    (hs : Region.noSelect ops = true) (hf : Region.free md ops listed i = true) (hr : (Region.ready md ops listed).contains i = true)
    (hQ : ∀ c a w, Q (.panic c) (a.put oi.dst v) w → Q (.panic c) a w) (hw : Region.wanted oi (yielded ops a.tmps) = true) (hy : ∀ w, S w → (execOp a.eval oi).run P w = .ok (.value v) w) (hS : S w)
    (h : wpAnyH P md ops Q S fuel (listed.setIfInBounds i true) (a.put d v) w) : wpAnyH P md ops Q S (fuel + 1) listed a w := by
  subst hd
  exact wpAnyH_take hi hs hf hr hQ (Or.inl ⟨hw, hy⟩) hS h
end Go.Proofs.YthmecidpjlaonaaGreat
namespace Go.Proofs.YthmecidpjlaonaaGreat
open Go.RowKit
attribute [local go_sem ↓] Go.wp_at_zero Go.wp_at_succ loadNm loadVt loadSg loadEv
attribute [local go_sem] runNm runVt runSg runEv pickRow_some rowAt_drew rowAt_drewN
/-- The signature's capacity fits. -/
def SgCap (s : Sg) : Prop := s.sig.length ≤ s.cap ∧ s.cap ≤ maxLen

set_option maxRecDepth 100000 in
set_option maxHeartbeats 2000000 in
theorem sver_yes (key nm : Nm) (s : Sg) (r : Bool) (w : World) (hv : s.vote.ok) (hy : ValidP s.vote)
    (hnm : ∀ W, Calls Tryz.prog 58 #[s.vote.val] W (NmPost W nm))
    (hver : ∀ W, Below w.heap.size w W → Calls Tryz.prog 57 #[key.val, .int .i64 2, nm.val, .slice s.A s.sig.length s.cap] W (BoolPost W r)) :
    Calls Tryz.prog 20 #[key.val, s.val] w (BoolPost w r) := by
  have HV := Lib.hid (fun W => valid_yes s.vote W hv hy)
  have HN := Lib.hid hnm; clear hnm
  have HM := Lib.hid hver; clear hver
  clear hv hy
  go_enter Tryz.func20, Tryz.ntmps20
  go_wp2
  have hX : Blk ((w.alloc (Obj.cells key.cells 29)).alloc (Obj.cells s.cells 34)) w.heap.size 29 key.cells := (Blk.new w _ _).alloc _
  have hR : Blk ((w.alloc (Obj.cells key.cells 29)).alloc (Obj.cells s.cells 34)) (w.heap.size + 1) 34 s.cells := by
    have := Blk.new (w.alloc (Obj.cells key.cells 29)) 34 s.cells
    simpa using this
  have hbW : Below w.heap.size w ((w.alloc (Obj.cells key.cells 29)).alloc (Obj.cells s.cells 34)) := ((Below.refl _ _).alloc (Nat.le_refl _) _).alloc (by simp) _
  generalize ((w.alloc (Obj.cells key.cells 29)).alloc (Obj.cells s.cells 34)) = W at *
  have x0 := hX.row 8 rfl
  have r0 := s.row_vote hR
  have l0 : W.cell? ⟨w.heap.size + 1, 22, none⟩ = some (.slice s.A s.sig.length s.cap) := (hR.cell 22).trans s.cell_sig
  go_region_held3 (fun w' => rowAt w' (w.heap.size + 1) 0 22 = some s.vote.cells ∧ w'.cell? ⟨w.heap.size + 1, 22, none⟩ = some (.slice s.A s.sig.length s.cap) ∧ rowAt w' w.heap.size 0 8 = some key.cells) (first | exact ⟨r0, l0, x0⟩ | exact ⟨r2, l2, x2⟩ | exact ⟨r3, l3, x3⟩ | exact ⟨r4, l4, x4⟩)
    ((first
      | (go_at_call 56; refine (HV.out _).mono ?_; rintro en w2 ⟨rfl, hb2⟩; have hX2 := hX.drew.below hb2 hX.lt; have hR2 := hR.drew.below hb2 hR.lt; have x2 := hX2.row 8 rfl; have r2 := s.row_vote hR2; have l2 := (hR2.cell 22).trans s.cell_sig; have hbw2 := hbW.trans (((Below.refl _ _).drew.trans hb2).mono hbW.size))
      | (go_at_call 58; refine (HN.out _).mono ?_; rintro en w3 ⟨rfl, hb3⟩; have hX3 := hX2.below hb3 hX2.lt; have hR3 := hR2.below hb3 hR2.lt; have x3 := hX3.row 8 rfl; have r3 := s.row_vote hR3; have l3 := (hR3.cell 22).trans s.cell_sig; have hbw3 := hbw2.trans (hb3.mono hbw2.size))
      | (go_at_call 57; refine (HM.out _ hbw3).mono ?_; rintro en w4 ⟨rfl, hb4⟩; have hX4 := hX3.below hb4 hX3.lt; have hR4 := hR3.below hb4 hR3.lt; have x4 := hX4.row 8 rfl; have r4 := s.row_vote hR4; have l4 := (hR4.cell 22).trans s.cell_sig; have hbw4 := hbw3.trans (hb4.mono hbw3.size))))
  go_wp2
  go_ret
  exact ⟨rfl, hbw4⟩

set_option maxRecDepth 100000 in
set_option maxHeartbeats 2000000 in
theorem sver_no (key : Nm) (s : Sg) (w : World) (hv : s.vote.ok) (hy : ¬ ValidP s.vote) :
    Calls Tryz.prog 20 #[key.val, s.val] w (BoolPost w false) := by
  have HV := Lib.hid (fun W => valid_no s.vote W hv hy)
  clear hv hy
  go_enter Tryz.func20, Tryz.ntmps20
  go_wp2
  have hX : Blk ((w.alloc (Obj.cells key.cells 29)).alloc (Obj.cells s.cells 34)) w.heap.size 29 key.cells := (Blk.new w _ _).alloc _
  have hR : Blk ((w.alloc (Obj.cells key.cells 29)).alloc (Obj.cells s.cells 34)) (w.heap.size + 1) 34 s.cells := by
    have := Blk.new (w.alloc (Obj.cells key.cells 29)) 34 s.cells
    simpa using this
  have hbW : Below w.heap.size w ((w.alloc (Obj.cells key.cells 29)).alloc (Obj.cells s.cells 34)) := ((Below.refl _ _).alloc (Nat.le_refl _) _).alloc (by simp) _
  generalize ((w.alloc (Obj.cells key.cells 29)).alloc (Obj.cells s.cells 34)) = W at *
  refine wp_region_noPanic ?_
  refine wp_region_held_drew (S := fun w' => rowAt w' (w.heap.size + 1) 0 22 = some s.vote.cells) (by kernel_rfl) (s.row_vote hR.drew) (fun hHeld => ?_)
  refine wpAnyH_takeD (some 5) (i := 0) (v := ?vh0) rfl rfl (by kernel_rfl) (by kernel_rfl) (by kernel_rfl) (fun _ _ _ h => h) (by rfl) ?hh0 (by assumption) ?_
  case hh0 => (intro wq hSw; (try dsimp only at hSw); go_simp; (try (with_reducible rfl)))
  go_frame
  refine wpAnyH_takeD (some 6) (i := 1) (v := ?vh1) rfl rfl (by kernel_rfl) (by kernel_rfl) (by kernel_rfl) (fun _ _ _ h => h) (by rfl) ?hh1 (by assumption) ?_
  case hh1 => (intro wq hSw; (try dsimp only at hSw); go_simp; (try (with_reducible rfl)))
  go_frame
  refine wpAnyH_ready (rs := [2]) (by kernel_rfl) (by simp) ?_
  refine AllReadyH.cons rfl (fun K hK => ?_) AllReadyH.nil
  go_simp
  refine (HV.out _).mono ?_; rintro en w2 ⟨rfl, hb2⟩; have hR2 := hR.drew.below hb2 hR.lt; have r2 := s.row_vote hR2; have hbw2 := hbW.trans (((Below.refl _ _).drew.trans hb2).mono hbW.size)
  go_wp2_with fail
  refine hK.out _ _ (r2) (fun hHeld => ?_)
  clear hK K
  try go_frame
  refine wpAnyH_takeD (some 8) (i := 3) (v := ?vh3) rfl rfl (by kernel_rfl) (by kernel_rfl) (by kernel_rfl) (fun _ _ _ h => h) (by rfl) ?hh3 (by assumption) ?_
  case hh3 => (intro wq hSw; (try dsimp only at hSw); go_simp; (try (with_reducible rfl)))
  go_frame
  refine wpAnyH_skipD (some 9) (i := 4) rfl rfl (by kernel_rfl) (by kernel_rfl) (by kernel_rfl) (fun _ _ _ h => h) (by rfl) (by assumption) ?_
  go_frame
  refine wpAnyH_skipD (some 10) (i := 5) rfl rfl (by kernel_rfl) (by kernel_rfl) (by kernel_rfl) (fun _ _ _ h => h) (by rfl) (by assumption) ?_
  go_frame
  refine wpAnyH_skipD (some 11) (i := 6) rfl rfl (by kernel_rfl) (by kernel_rfl) (by kernel_rfl) (fun _ _ _ h => h) (by rfl) (by assumption) ?_
  go_frame
  refine wpAnyH_skipD (some 12) (i := 7) rfl rfl (by kernel_rfl) (by kernel_rfl) (by kernel_rfl) (fun _ _ _ h => h) (by rfl) (by assumption) ?_
  go_frame
  refine wpAnyH_skipD (some 13) (i := 8) rfl rfl (by kernel_rfl) (by kernel_rfl) (by kernel_rfl) (fun _ _ _ h => h) (by rfl) (by assumption) ?_
  go_frame
  refine wpAnyH_skipD (some 14) (i := 9) rfl rfl (by kernel_rfl) (by kernel_rfl) (by kernel_rfl) (fun _ _ _ h => h) (by rfl) (by assumption) ?_
  go_frame
  refine wpAnyH_skipD (some 15) (i := 10) rfl rfl (by kernel_rfl) (by kernel_rfl) (by kernel_rfl) (fun _ _ _ h => h) (by rfl) (by assumption) ?_
  go_frame
  refine wpAnyH_takeD (some 16) (i := 11) (v := ?vh11) rfl rfl (by kernel_rfl) (by kernel_rfl) (by kernel_rfl) (fun _ _ _ h => h) (by rfl) ?hh11 (by assumption) ?_
  case hh11 => (intro wq hSw; (try dsimp only at hSw); go_simp; (try (with_reducible rfl)))
  go_frame
  refine wpAnyH_takeD (some 4) (i := 12) (v := ?vh12) rfl rfl (by kernel_rfl) (by kernel_rfl) (by kernel_rfl) (fun _ _ _ h => h) (by rfl) ?hh12 (by assumption) ?_
  case hh12 => (intro wq hSw; (try dsimp only at hSw); go_simp; (try (with_reducible rfl)))
  go_frame
  refine wpAnyH_done (by kernel_rfl) ?_ _
  refine NoPanic.normal ?_
  go_wp2
  go_ret
  exact ⟨rfl, hbw2⟩

theorem sver_any (key : Nm) (s : Sg) (w : World) (hs : SgOk w w.heap.size s) (hc : SgCap s) : Calls Tryz.prog 20 #[key.val, s.val] w (BoolPost w (verS key s.vote s.sig)) := by
  by_cases hy : ValidP s.vote
  · have e : verS key s.vote s.sig = verF key (nameF s.vote) s.sig := by unfold verS; rw [decide_eq_true hy]; rfl
    rw [e]
    exact sver_yes key (nameF s.vote) s _ w hs.1 hy (fun W => vname_yes s.vote W hs.1 hy) (fun W hW => mver_any key _ s.A s.cap s.sig W ((hs.2.1.below hW).more hW.size) hs.2.2 hc.1 hc.2)
  · have e : verS key s.vote s.sig = false := by unfold verS; rw [decide_eq_false hy]; rfl
    rw [e]
    exact sver_no key s w hs.1 hy

end Go.Proofs.YthmecidpjlaonaaGreat
