/-
  codec.Uint, manytime.Leaf and the reference's Uint read a number of bytes, highest first, and change nothing. Condition: the bytes lie in memory below the call.
  manytime.names returns the names that stand at an offset of bytes, in a new block, and changes nothing that was there. Condition: the bytes lie in memory below the call and suffice.
  onetime.Recover returns the public name that a one-time signature shows (recF), and true, and changes nothing that was there. Condition: the signature's 18 names lie in memory below the call.
  The reference's OneRecover returns the public name that a one-time signature shows (recF), and true; its list reads names out of bytes. Both change nothing that was there. Condition: the names, the bytes lie in memory below the call.
-/
import Derived.Test.YthmecidpjlaonaaGreatSGOne
import Derived.Test.YthmecidpjlaonaaGreatSGDig
namespace Go.Proofs.YthmecidpjlaonaaGreat
open Go.RowKit

theorem or8 (v : Nat) (b : UInt8) (hv : v < 72057594037927936) : bits .or .u64 ((v : Int) * 256) (b.toNat : Int) = (v : Int) * 256 + (b.toNat : Int) := by
  have h := or_step v b hv
  have hb := b.toNat_lt
  have e1 : IntKind.u64.wrap ((v : Int) * 256) = (v : Int) * 256 := by rw [IntKind.wrap_u64]; omega
  have e2 : IntKind.u64.wrap (b.toNat : Int) = (b.toNat : Int) := by rw [IntKind.wrap_u64]; omega
  rw [e1, e2] at h
  rw [h]; omega

set_option maxRecDepth 100000 in
theorem cfollow_yes (A : Option Addr) (n c at_ k : Nat) (w : World) (hn : n ≤ 140737488351232) (h : at_ + k ≤ n) :
    Calls Tryz.prog 159 #[.slice A n c, .int .i64 (at_ : Int), .int .i64 (k : Int)] w fun e w' => e = .returned (.bool true) ∧ w = w' := by
  have d1 : decide ((0 : Int) ≤ (at_ : Int)) = true := by simp
  have d2 : decide (at_ ≤ n) = true := by simp; omega
  go_enter Tryz.func159, Tryz.ntmps159
  go_wp2
  go_ret
  exact ⟨ret_b (by simp; omega), rfl⟩
set_option maxRecDepth 100000 in
theorem cfollow_no (A : Option Addr) (n c at_ k : Nat) (w : World) (_hn : n ≤ 140737488351232) (h : n < at_ + k) (hk : k ≤ 8) (_ha : at_ ≤ 1000000) :
    Calls Tryz.prog 159 #[.slice A n c, .int .i64 (at_ : Int), .int .i64 (k : Int)] w fun e w' => e = .returned (.bool false) ∧ w = w' := by
  have d1 : decide ((0 : Int) ≤ (at_ : Int)) = true := by simp
  by_cases h2 : at_ ≤ n
  · have d2 : decide (at_ ≤ n) = true := by simp; omega
    go_enter Tryz.func159, Tryz.ntmps159
    go_wp2
    go_ret
    exact ⟨ret_b (by simp; omega), rfl⟩
  · have d2 : decide (at_ ≤ n) = false := by simp; omega
    go_enter Tryz.func159, Tryz.ntmps159
    go_wp2
    go_ret
    exact ⟨rfl, rfl⟩

theorem numN_take (l : List UInt8) (k : Nat) : numN (l.take k) < 256 ^ k := by
  refine Nat.lt_of_lt_of_le (numN_lt _) (Nat.pow_le_pow_right (by omega) ?_)
  simp; omega
theorem pow56 (k : Nat) (h : k < 8) : 256 ^ k ≤ 72057594037927936 := by
  show 256 ^ k ≤ 256 ^ 7
  exact Nat.pow_le_pow_right (by omega) (by omega)

set_option maxRecDepth 100000 in
set_option maxHeartbeats 1000000 in
theorem uint_yes (A : Option Addr) (c at_ k : Nat) (l : List UInt8) (w : World) (hr : Rd w w.heap.size A (l.map B)) (hlen : l.length ≤ 140737488351232) (hc : l.length ≤ c) (hm : c ≤ maxLen) (hk : 1 ≤ k) (hk8 : k ≤ 8) (h : at_ + k ≤ l.length) :
    Calls Tryz.prog 129 #[.slice A l.length c, .int .i64 (at_ : Int), .int .i64 (k : Int)] w fun e w' => e = .returned (.tuple #[.int .u64 (numN ((l.drop at_).take k) : Int), .bool true]) ∧ w' = w := by
  obtain ⟨b, o, rfl, hb, hcell⟩ := hr.cells (by intro e; rw [List.map_eq_nil_iff] at e; subst e; simp at h; omega)
  have Hcell := Lib.hid hcell; clear hcell
  unfold maxLen at hm
  have HF := Lib.hid (fun W => cfollow_yes (some ⟨b, o, none⟩) l.length c at_ k W hlen h)
  have hne : ¬ c = at_ := by omega
  go_enter Tryz.func129, Tryz.ntmps129
  go_wp2_with ((go_at_call 159; refine (HF.out _).mono ?_; rintro en w' ⟨rfl, rfl⟩))
  go_loop [8, 31] (fun v i => ∃ j : Nat, j ≤ k ∧ i = .int .i64 j ∧ v = .int .u64 (numN ((l.drop at_).take j) : Int)) (fun _ i => k - (intOf i).toNat)
  case atStart => exact ⟨0, by omega, rfl, rfl⟩
  case round =>
    obtain ⟨j, hj, rfl, rfl⟩ := hrel
    by_cases hlt : j < k
    · have hjl : j < (l.drop at_).length := by simp; omega
      have e1 := take_snoc' (l.drop at_) j hjl
      have e2 : numN ((l.drop at_).take (j + 1)) = numN ((l.drop at_).take j) * 256 + (l.drop at_)[j].toNat := by rw [e1, numN_snoc]
      have E2 := Lib.hid e2; clear e1 e2
      have hv := Nat.lt_of_lt_of_le (numN_take (l.drop at_) j) (pow56 j (by omega))
      have hx : (l.map B)[at_ + j]? = some (B (l.drop at_)[j]) := by
        rw [List.getElem?_map, ← List.getElem?_drop, List.getElem?_eq_getElem hjl]; rfl
      have hcl := Hcell.out _ _ hx
      rw [← Nat.add_assoc] at hcl
      clear hx
      generalize (l.drop at_)[j] = bb at *
      generalize numN ((l.drop at_).take j) = v at *
      have hor := or8 v bb hv
      have hb8 := bb.toNat_lt
      go_wp2
      go_round
      case rel => exact ⟨j + 1, by omega, by go_num, by rw [E2.out]; go_num⟩
      case measure => simp [intOf]; omega
    · obtain rfl : j = k := by omega
      obtain ⟨v, hv⟩ : ∃ v, v = numN ((l.drop at_).take j) := ⟨_, rfl⟩
      rw [← hv]
      have Hv := Lib.hid hv; clear hv
      go_wp2
      go_ret2
      exact ⟨by rw [← Hv.out]; rfl, rfl⟩
set_option maxRecDepth 100000 in
set_option maxHeartbeats 1000000 in
theorem uint_no (A : Option Addr) (n c at_ k : Nat) (w : World) (hlen : n ≤ 140737488351232) (hk : 1 ≤ k) (hk8 : k ≤ 8) (h : n < at_ + k) (ha : at_ ≤ 1000000) :
    Calls Tryz.prog 129 #[.slice A n c, .int .i64 (at_ : Int), .int .i64 (k : Int)] w fun e w' => e = .returned (.tuple #[.int .u64 0, .bool false]) ∧ w' = w := by
  have HF := Lib.hid (fun W => cfollow_no A n c at_ k W hlen h hk8 ha)
  go_enter Tryz.func129, Tryz.ntmps129
  go_wp2_with ((go_at_call 159; refine (HF.out _).mono ?_; rintro en w' ⟨rfl, rfl⟩))
  go_ret2
  exact ⟨rfl, rfl⟩

theorem num2 (l : List UInt8) (h : 2 ≤ l.length) : numN ((l.drop 0).take 2) = leafN l := by
  match l, h with
  | a :: b :: r, _ => simp [numN, leafN]
theorem leafN_lt (l : List UInt8) : leafN l < 65536 := by
  have h1 := (l.getD 0 0).toNat_lt
  have h2 := (l.getD 1 0).toNat_lt
  unfold leafN
  omega
set_option maxRecDepth 100000 in
theorem leaf_yes (A : Option Addr) (c : Nat) (l : List UInt8) (w : World) (hr : Rd w w.heap.size A (l.map B)) (hlen : l.length ≤ 140737488351232) (hc : l.length ≤ c) (hm : c ≤ maxLen) (h : 2 ≤ l.length) :
    Calls Tryz.prog 91 #[.slice A l.length c] w fun e w' => e = .returned (.tuple #[.int .i64 (leafN l : Int), .bool true]) ∧ w' = w := by
  have hu := uint_yes A c 0 2 l w hr hlen hc hm (by omega) (by omega) (by omega)
  rw [num2 l h] at hu
  have HU := Lib.hid hu; clear hu
  have hl := leafN_lt l
  clear hr
  generalize leafN l = v at *
  go_enter Tryz.func91, Tryz.ntmps91
  go_wp2_with fail
  refine HU.out.mono ?_
  rintro en w' ⟨rfl, rfl⟩
  go_wp2
  go_ret2
  exact ⟨rfl, rfl⟩
set_option maxRecDepth 100000 in
theorem leaf_no (A : Option Addr) (n c : Nat) (w : World) (h : n < 2) :
    Calls Tryz.prog 91 #[.slice A n c] w fun e w' => e = .returned (.tuple #[.int .i64 0, .bool false]) ∧ w' = w := by
  have HU := Lib.hid (uint_no A n c 0 2 w (by omega) (by omega) (by omega) (by omega) (by omega))
  go_enter Tryz.func91, Tryz.ntmps91
  go_wp2_with fail
  refine HU.out.mono ?_
  rintro en w' ⟨rfl, rfl⟩
  go_wp2
  go_ret2
  exact ⟨rfl, rfl⟩

end Go.Proofs.YthmecidpjlaonaaGreat
namespace Go.Proofs.YthmecidpjlaonaaGreat
open Go.RowKit

/-- The first names of a block for n names. -/
def NamesAt (w : World) (g n : Nat) (l : List Nm) : Prop := ∃ cur : List Value, Blk w g 29 cur.toArray ∧ cur.length = 8 * n ∧ cur.take (8 * l.length) = l.flatMap nmc
section
variable {w w' : World} {g n : Nat} {l : List Nm}
theorem NamesAt.lt (h : NamesAt w g n l) : g < w.heap.size := by obtain ⟨cur, hB, _⟩ := h; exact hB.lt
theorem NamesAt.drew (h : NamesAt w g n l) : NamesAt w.drew g n l := h
theorem NamesAt.drewN (h : NamesAt w g n l) (k : Nat) : NamesAt (w.drewN k) g n l := h
theorem NamesAt.alloc (h : NamesAt w g n l) (o : Obj) : NamesAt (w.alloc o) g n l := by obtain ⟨cur, hB, r⟩ := h; exact ⟨cur, hB.alloc o, r⟩
theorem NamesAt.below {B' : Nat} (h : NamesAt w g n l) (hb : Below B' w w') (hg : g < B') : NamesAt w' g n l := by obtain ⟨cur, hB, r⟩ := h; exact ⟨cur, hB.below hb hg, r⟩
theorem NamesAt.kept {row : Option Nat} (h : NamesAt w g n l) (hb : w.grownBy w' row) (hg : some g ≠ row) : NamesAt w' g n l := by obtain ⟨cur, hB, r⟩ := h; exact ⟨cur, hB.kept hb hg, r⟩
theorem NamesAt.rd (h : NamesAt w g n l) : Rd w w.heap.size (some ⟨g, 0, none⟩) (l.flatMap nmc) := by
  obtain ⟨cur, hB, _, ht⟩ := h
  have := Rd.of_blk hB 0 (8 * l.length)
  rw [List.drop_zero] at this
  simp only at this
  rw [ht] at this
  exact this
end
theorem splice_names (cur : List Value) (n : Nat) (l : List Nm) (x : Nm) (hl : cur.length = 8 * n) (ht : cur.take (8 * l.length) = l.flatMap nmc) (hn : l.length < n) :
    (splice cur (l.length * 8) (nmc x)).length = 8 * n ∧ (splice cur (l.length * 8) (nmc x)).take (8 * (l ++ [x]).length) = (l ++ [x]).flatMap nmc := by
  have h8 : (nmc x).length = 8 := rfl
  have e : l.length * 8 = 8 * l.length := Nat.mul_comm _ _
  refine ⟨by rw [length_splice _ _ _ (by rw [h8]; omega)]; exact hl, ?_⟩
  unfold splice
  rw [e, ht, List.flatMap_append, ← List.append_assoc, List.take_append_of_le_length (by
    rw [List.length_append, List.length_append, flat_length nmc 8 l (nmc_len l), h8]; simp; omega), List.take_of_length_le (by
    rw [List.length_append, List.length_append, flat_length nmc 8 l (nmc_len l), h8]; simp; omega)]
  simp
theorem NamesAt.zero (w : World) (cs : Array Value) (n : Nat) (h : cs.size = 8 * n) : NamesAt (w.alloc (.cells cs 29)) w.heap.size n [] :=
  ⟨cs.toList, by simpa using Blk.new w 29 cs, by simpa using h, by simp⟩

/-- A whole name stored behind the last one. -/
theorem setCells_blk (g : Nat) (t : TypeId) : ∀ (vs : List Value) (o : Nat) (w : World) (cur : List Value), Blk w g t cur.toArray → o + vs.length ≤ cur.length →
    Blk (w.setCells g o vs) g t (splice cur o vs).toArray
  | [], o, w, cur, h, _ => by simpa [World.setCells, splice] using h
  | v :: r, o, w, cur, h, hl => by
    rw [World.setCells]
    have hl' : o + (r.length + 1) ≤ cur.length := by simpa using hl
    have h1 := h.put o v
    have e : cur.toArray.setIfInBounds o v = (cur.set o v).toArray := by simp
    rw [e] at h1
    have h2 := setCells_blk g t r (o + 1) (w.setCell ⟨g, o, none⟩ v) (cur.set o v) h1 (by simp; omega)
    have e2 : splice (cur.set o v) (o + 1) r = splice cur o (v :: r) := by
      unfold splice
      rw [List.take_set, List.drop_set, if_pos (by omega), List.length_cons, show o + (r.length + 1) = o + 1 + r.length from by omega]
      rw [take_snoc' cur o (by omega), List.set_append_right _ _ (by simp; omega)]
      simp [Nat.min_eq_left (show o ≤ cur.length by omega)]
    rw [← e2]
    exact h2
theorem setCells_names {w : World} {g n : Nat} {l : List Nm} (x : Nm) (h : NamesAt w g n l) (hn : l.length < n) : NamesAt (w.setCells g (l.length * 8) (nmc x)) g n (l ++ [x]) := by
  obtain ⟨cur, hB, hl, ht⟩ := h
  obtain ⟨h1, h2⟩ := splice_names cur n l x hl ht hn
  exact ⟨_, setCells_blk g _ (nmc x) _ w cur hB (by rw [show (nmc x).length = 8 from rfl]; omega), h1, h2⟩
theorem wpList_store_name {P : Program} {ops : Array Oper} {rest : List Oper} {op : Oper} {a : Act} {w : World} {Q : Exit → Act → World → Prop} (hgd : op.guard = none) (ty : TypeId) (x y : Operand) (ho : op.op = .store ty x y)
    (g n k : Nat) (l : List Nm) (nm : Nm) (hx : a.eval x = .pointer (some ⟨g, k * 8, none⟩)) (hy : a.eval y = nm.val)
    (hB : NamesAt w g n l) (hk : l.length = k) (hn : k < n) (hi : (P.info? ty).map (·.size) = some 8)
    (h : ∀ w', NamesAt w' g n (l ++ [nm]) → w.grownBy w' (some g) → w'.heap.size = w.heap.size → wpList P ops Q rest (a.put op.dst undef) w') : wpList P ops Q (op :: rest) a w := by
  subst hk
  obtain ⟨cur, hC, hl, ht⟩ := hB
  have hth : w.there g (l.length * 8) 8 := fun j hj => ⟨by
    rw [hC.cell, Array.getElem?_eq_getElem (by simp; omega)]; rfl, hC.frozen _⟩
  refine wpList_store_mid hgd ty x y ho g (l.length * 8) nm.cells hx hy hth hi (Array.all_eq_true_iff_forall_mem.2 fun v hv => bytes_one (l := nm.bytes) (by simpa [Nm.bytes] using hv)) ?_
  obtain ⟨_, h4, h5⟩ := setCells_frame g 29 nm.cells.toList (l.length * 8) w _ hC
  exact h _ (setCells_names nm ⟨cur, hC, hl, ht⟩ hn) h4 h5

theorem ofList_cells (l : List UInt8) (h : 8 ≤ l.length) : nmc (Nm.ofList l) = (l.take 8).map B := by
  obtain ⟨b0, b1, b2, b3, b4, b5, b6, b7, r, rfl⟩ := eight h
  simp [Nm.ofList]
theorem info_name : (Tryz.prog.info? 29).map (fun i => (i.zero, i.size, i.bytes)) = some (some (Nm.val ⟨0, 0, 0, 0, 0, 0, 0, 0⟩), 8, 8) := by kernel_rfl
theorem namesF_snoc (l : List UInt8) (at_ k : Nat) : namesF l at_ (k + 1) = namesF l at_ k ++ [nameAt l (at_ + 8 * k)] := by
  simp [namesF, List.range_succ]
theorem namesF_len (l : List UInt8) (at_ k : Nat) : (namesF l at_ k).length = k := by simp [namesF]
/-- The call returns n names in a block. -/
def NamesPost (w : World) (n : Nat) (l : List Nm) (e : Ending) (w' : World) : Prop := ∃ g, e = .returned (.slice (some ⟨g, 0, none⟩) n n) ∧ NamesAt w' g n l ∧ Below w.heap.size w w'

set_option maxRecDepth 100000 in
set_option maxHeartbeats 1000000 in
theorem names_any (A : Option Addr) (c at_ n : Nat) (l : List UInt8) (w : World) (hr : Rd w w.heap.size A (l.map B)) (hlen : l.length ≤ 1000000) (hc : l.length ≤ c) (hm : c ≤ maxLen) (hn1 : 1 ≤ n) (hn : n ≤ 32) (h : at_ + 8 * n ≤ l.length) :
    Calls Tryz.prog 131 #[.slice A l.length c, .int .i64 (at_ : Int), .int .i64 (n : Int)] w (NamesPost w n (namesF l at_ n)) := by
  obtain ⟨b, o, rfl, hb, hcell⟩ := hr.cells (by intro e; rw [List.map_eq_nil_iff] at e; subst e; simp at h; omega)
  have Hcell := Lib.hid hcell; clear hcell
  unfold maxLen at hm
  obtain ⟨i0, hi, hz0, hz1, hz2⟩ := info_parts info_name
  obtain ⟨Z, hZ⟩ : ∃ Z, Z = madeCells (Value.cells (Nm.val ⟨0, 0, 0, 0, 0, 0, 0, 0⟩)) (n * 8) := ⟨_, rfl⟩
  have hmk : ∀ W : World, (Instr.makeSlice 22 (.int .i64 (n : Int)) (.int .i64 (n : Int))).run Tryz.prog W = .ok (.slice (some ⟨W.heap.size, 0, none⟩) n n) (W.alloc (.cells Z 29)) := fun W => by
    have := run_make (P := Tryz.prog) W 22 29 i0 _ Tryz.underlying22 hi hz0 .i64 .i64 n n (by omega) (by omega) (by rw [hz2]; omega) (by omega)
    rw [this, hz1]
    simp only [Int.toNat_natCast, hZ]
  have hZs : Z.size = 8 * n := by rw [hZ, size_madeCells]; omega
  have HZ := Lib.hid hZs
  clear hZ hZs hi hz0 hz1 hz2
  go_enter Tryz.func131, Tryz.ntmps131
  go_wp2
  clear hmk
  have hN : NamesAt (w.alloc (.cells Z 29)) w.heap.size n [] := NamesAt.zero w Z n HZ.out
  have hbW : Below w.heap.size w (w.alloc (.cells Z 29)) := (Below.refl _ _).alloc (Nat.le_refl _) _
  generalize w.alloc (.cells Z 29) = W at *
  go_loopw [13] (fun i wr => ∃ k : Nat, k ≤ n ∧ i = .int .i64 k ∧ NamesAt wr w.heap.size n (namesF l at_ k) ∧ Below w.heap.size w wr)
    (fun i _ => n - (intOf i).toNat)
  case atStart => exact ⟨0, by omega, rfl, hN, hbW⟩
  case round =>
    clear hN hbW
    obtain ⟨k, hk, rfl, hN, hbw⟩ := hrel
    by_cases hlt : k < n
    · have e1 := namesF_snoc l at_ k
      have E1 := Lib.hid e1; clear e1
      have e2 := namesF_len l at_ k
      have E2 := Lib.hid e2; clear e2
      have e3 : nmc (nameAt l (at_ + 8 * k)) = ((l.drop (at_ + 8 * k)).take 8).map B := ofList_cells _ (by simp; omega)
      have E3 := Lib.hid e3; clear e3
      generalize nameAt l (at_ + 8 * k) = x at *
      generalize namesF l at_ k = nl at *
      have i1 : (0 : Int) ≤ (k : Int) := by omega
      have i2 : (k : Int) < (n : Int) := by omega
      have hw1 : IntKind.i64.wrap ((k : Int) * 8) = (k : Int) * 8 := IntWalk.i64_in _ (by omega)
      have hw2 : IntKind.i64.wrap ((at_ : Int) + (k : Int) * 8) = (at_ : Int) + (k : Int) * 8 := IntWalk.i64_in _ (by omega)
      have i3 : (0 : Int) ≤ (at_ : Int) + (k : Int) * 8 := by omega
      have i4 : (at_ : Int) + (k : Int) * 8 ≤ (l.length : Int) := by omega
      have i5 : ((at_ : Int) + (k : Int) * 8).toNat = at_ + k * 8 := by omega
      have i6 : ¬ c = at_ + k * 8 := by omega
      have i7 : (l.length : Int) ≤ (c : Int) := by omega
      have hlt2 := hN.lt
      go_wp2
      refine wp_region_still_tail 10 (by kernel_rfl) (by kernel_rfl) ?_
      simp only [List.take_succ_cons, List.take_zero, List.drop_succ_cons, List.drop_zero]
      iterate 10 still_step
      refine wpStill_nil ?_
      change wpList _ _ _ _ _ wr.drew
      replace hN := hN.drew
      replace hbw := hbw.drew
      clear hw1 hw2 i3 i4 i5 i7
      generalize wr.drew = w1 at *
      obtain ⟨cur, hC, hl, ht⟩ := hN
      have Hl := Lib.hid hl; clear hl
      have Ht := Lib.hid ht; clear ht
      refine wpList_copy_splice rfl (.tmp 19) (.tmp 25) _ _ rfl 5 Tryz.underlying32 (by kernel_rfl) _ _ _ _ _ _ rfl rfl w.heap.size (k * 8) cur 29 hC (nmc x) ?c1 ?c2 ?c3 ?c4 w.heap.size w hbw (Nat.le_refl _) ?_
      case c1 => exact (Nat.min_eq_right (show 8 ≤ l.length - (at_ + k * 8) by omega)).symm
      case c2 =>
        intro _
        refine ⟨rfl, _, rfl, fun j v hv => ?_⟩
        rw [Addr.add_mid, hbw.cell (p := ⟨b, o + (at_ + k * 8) + j, none⟩) hb, show o + (at_ + k * 8) + j = o + (at_ + 8 * k + j) from by omega]
        refine Hcell.out _ v ?_
        rw [E3.out, List.map_take, List.getElem?_take] at hv
        split at hv
        · rw [← hv, List.map_drop, List.getElem?_drop]
        · cases hv
      case c3 => have := Hl.out; show k * 8 + 8 ≤ _; omega
      case c4 => exact fun u hu => bytes_one (l := x.bytes) (by simpa [Nm.bytes] using hu)
      intro w2 hg2 hb2
      have hs := splice_names cur n nl x Hl.out Ht.out (by rw [E2.out]; exact hlt)
      have hN2 : NamesAt w2 w.heap.size n (nl ++ [x]) := ⟨_, by rw [E2.out]; exact hg2.out, hs⟩
      clear hs hg2 hC hbw
      go_frame
      go_wp2
      go_roundw
      case rel => exact ⟨k + 1, by omega, by go_num, by rw [E1.out]; exact hN2, hb2⟩
      case measure => simp [intOf]; omega
    · obtain rfl : k = n := by omega
      obtain ⟨nl, hnl⟩ : ∃ nl, nl = namesF l at_ k := ⟨_, rfl⟩
      rw [← hnl] at hN
      have Hnl := Lib.hid hnl; clear hnl
      go_wp2
      go_ret
      exact ⟨w.heap.size, rfl, by rw [← Hnl.out]; exact hN, hbw⟩
end Go.Proofs.YthmecidpjlaonaaGreat
namespace Go.Proofs.YthmecidpjlaonaaGreat
open Go.RowKit

theorem endsF_snoc (m : Nm) (sig : List Nm) (k : Nat) : (List.range (k + 1)).map (endF m sig) = (List.range k).map (endF m sig) ++ [endF m sig k] := by
  simp [List.range_succ]
theorem getD_some {α : Type} {l : List α} {k : Nat} (d : α) (h : k < l.length) : l[k]? = some (l.getD k d) := by
  rw [List.getD_eq_getElem?_getD, List.getElem?_eq_getElem h]; rfl

set_option maxRecDepth 100000 in
set_option maxHeartbeats 2000000 in
theorem recover_any (m : Nm) (sig : List Nm) (A : Option Addr) (c : Nat) (w : World) (hr : Rd w w.heap.size A (sig.flatMap nmc)) (h18 : sig.length = 18) :
    Calls Tryz.prog 130 #[m.val, .slice A 18 c] w fun e w' => e = .returned (.tuple #[(recF m sig).val, .bool true]) ∧ Below w.heap.size w w' := by
  have HR := Lib.hid hr; clear hr
  have H18 := Lib.hid h18; clear h18
  obtain ⟨Z, hZ⟩ : ∃ Z, Z = Array.replicate 144 (Value.int .u8 0) := ⟨_, rfl⟩
  have hmk : ∀ W : World, (Instr.makeSlice 22 (.int .i64 18) (.int .i64 18)).run Tryz.prog W = .ok (.slice (some ⟨W.heap.size, 0, none⟩) 18 18) (W.alloc (.cells Z 29)) := fun W => by rw [hZ]; kernel_rfl
  have HZ : Hid (Z.size = 8 * 18) := by rw [hZ]; exact Array.size_replicate
  clear hZ
  go_enter Tryz.func130, Tryz.ntmps130
  go_wp2_with (refine wpList_load_row rfl 29 _ rfl w.heap.size rfl 29 m.cells (0, 0) _ (((Blk.new w _ _).alloc _).alloc _) Tryz.underlying29 rfl size_name ?_)
  clear hmk
  have hR : Blk (((w.alloc (Obj.cells m.cells 29)).alloc (Obj.cells zero8 29)).alloc (Obj.cells Z 29)) (w.heap.size + 1) 29 zero8 := by
    have := (Blk.new (w.alloc (Obj.cells m.cells 29)) 29 zero8).alloc (Obj.cells Z 29)
    simpa using this
  have hN : NamesAt (((w.alloc (Obj.cells m.cells 29)).alloc (Obj.cells zero8 29)).alloc (Obj.cells Z 29)) (w.heap.size + 1 + 1) 18 [] := by
    have := NamesAt.zero ((w.alloc (Obj.cells m.cells 29)).alloc (Obj.cells zero8 29)) Z 18 HZ.out
    simpa using this
  have hbW : Below w.heap.size w (((w.alloc (Obj.cells m.cells 29)).alloc (Obj.cells zero8 29)).alloc (Obj.cells Z 29)) := (((Below.refl _ _).alloc (Nat.le_refl _) _).alloc (by simp) _).alloc (by simp; omega) _
  generalize (((w.alloc (Obj.cells m.cells 29)).alloc (Obj.cells zero8 29)).alloc (Obj.cells Z 29)) = W at *
  refine (digits_any m W).mono ?_
  rintro en w1 ⟨A1, c1, rfl, hown, hb1⟩
  replace hR := hR.below hb1 hR.lt
  replace hN := hN.below hb1 hN.lt
  replace hown := own_base hown hbW.size
  replace hbW := hbW.trans (hb1.mono hbW.size)
  clear hb1 HZ
  have hdl := digits_length m
  have hdle := digits_le m
  obtain ⟨gd, od, rfl, _, _⟩ := (Rd.of_own hown).cells (by intro e; rw [List.map_eq_nil_iff] at e; rw [e] at hdl; simp at hdl)
  obtain ⟨ds, hds⟩ : ∃ ds, ds = digits m := ⟨_, rfl⟩
  rw [← hds] at hown hdl hdle
  have Hds := Lib.hid hds; clear hds
  have Hdl := Lib.hid hdl; clear hdl
  have Hdle := Lib.hid hdle; clear hdle
  go_wp2_with fail
  go_loopw [17] (fun i wr => ∃ k : Nat, k ≤ 18 ∧ i = .int .i64 k ∧ NamesAt wr (w.heap.size + 1 + 1) 18 ((List.range k).map (endF m sig)) ∧ Blk wr (w.heap.size + 1) 29 zero8 ∧ wr.ownsRow w.heap.size 3 1 (.slice (some ⟨gd, od, none⟩) 18 c1) 18 (ds.map N) ∧ Below w.heap.size w wr)
    (fun i _ => 18 - (intOf i).toNat)
  case atStart => exact ⟨0, by omega, rfl, hN, hR, hown, hbW⟩
  case round =>
    clear hN hR hown hbW
    obtain ⟨k, hk, rfl, hN, hR, hown, hb⟩ := hrel
    by_cases hlt : k < 18
    · have e1 := endsF_snoc m sig k
      have E1 := Lib.hid e1; clear e1
      have E2 : Hid (((List.range k).map (endF m sig)).length = k) := by show _ = _; simp
      generalize (List.range k).map (endF m sig) = nl at *
      have hx := getD_some Nm.zero (l := sig) (k := k) (by rw [H18.out]; exact hlt)
      have hdk := getD_some 0 (l := ds) (k := k) (by rw [Hdl.out]; exact hlt)
      have hd15 := Hdle.out _ (List.mem_of_getElem? hdk)
      have e3 : endF m sig k = walkF (sig.getD k Nm.zero) k (ds.getD k 0) (15 - ds.getD k 0) := by rw [Hds.out]; rfl
      have E3 := Lib.hid e3; clear e3
      generalize endF m sig k = y at *
      generalize sig.getD k Nm.zero = x at *
      generalize ds.getD k 0 = d at *
      obtain ⟨b, o, rfl, hbk, hcell⟩ := Rd.name (HR.out.below hb) hx
      have Hcell := Lib.hid hcell; clear hcell
      have hdc : wr.cell? ⟨gd, od + k, none⟩ = some (N d) := by
        obtain ⟨gd', od', he, _, hc⟩ := (Rd.of_own hown).cells (by intro e; rw [e] at hown; have := hown.1; simp at this)
        injection he with he
        injection he with h1 h2
        subst h1; subst h2
        exact hc k _ (by rw [List.getElem?_map, hdk]; rfl)
      clear hx hdk
      have HW : Hid (∀ W, Calls Tryz.prog 161 #[x.val, .int .i64 (k : Int), .int .i64 (d : Int), .int .i64 15] W (NmPost W y)) := fun W => by
        rw [E3.out]; exact walk_any x k d 15 W (by omega) hd15 (by omega)
      go_wp2_with (first
        | (refine wpList_load_at rfl 29 _ rfl b (o + k * 8) rfl x.cells _ Hcell.out Tryz.underlying29 rfl size_name ?_)
        | fail)
      refine (HW.out wr).mono ?_
      rintro en w2 ⟨rfl, hb2⟩
      have hN2 := hN.below hb2 hN.lt
      have hR2 := hR.below hb2 hR.lt
      have hown2 := own_below hown hb2 (Nat.le_refl _)
      have hbw2 := hb.trans (hb2.mono hb.size)
      clear hN hR hown hb hb2 hdc HW
      go_wp2_with (refine wpList_store_name rfl 29 (.tmp 31) (.tmp 30) rfl (w.heap.size + 1 + 1) 18 k nl y rfl rfl hN2 E2.out hlt size_name ?_)
      intro w3 hN3 hg3 hs3
      have hR3 := hR2.kept hg3 (by simp)
      have hown3 := hown2.kept hg3 (by
        obtain ⟨cur, hC, _⟩ := hN2
        exact .inr fun e => own_ne hown2 hC (by decide) e.symm)
      have hbw3 : Below w.heap.size w w3 := hbw2.grown hg3 hbw2.size (by rintro j ⟨⟩; omega)
      clear hN2 hR2 hown2 hbw2 hg3 hs3
      go_wp2
      go_roundw
      case rel => exact ⟨k + 1, by omega, by go_num, by rw [E1.out]; exact hN3, hR3, hown3, hbw3⟩
      case measure => simp [intOf]; omega
    · obtain rfl : k = 18 := by omega
      obtain ⟨r, hr⟩ : ∃ r, r = recF m sig := ⟨_, rfl⟩
      have Hr := Lib.hid hr
      have hcall : Calls Tryz.prog 162 #[.slice (some ⟨w.heap.size + 1 + 1, 0, none⟩) 18 18] wr (NmPost wr r) := by
        have h := public_any (some ⟨w.heap.size + 1 + 1, 0, none⟩) 18 ((List.range 18).map (endF m sig)) wr hN.rd (by simp)
        rw [List.length_map, List.length_range] at h
        rw [hr]
        exact h
      have HC := Lib.hid hcall
      clear hcall hr hN hown
      go_wp2_with fail
      refine HC.out.mono ?_
      rintro en w3 ⟨rfl, hb3⟩
      have hR3 := hR.below hb3 hR.lt
      have hbw3 := hb.trans (hb3.mono hb.size)
      clear hR hb hb3 HC
      go_wp2_with (refine wpList_store_blk rfl 29 (.tmp 4) (.tmp 34) rfl (w.heap.size + 1) _ rfl rfl 29 _ hR3 rfl size_name ?s2 ?_)
      case s2 => exact ⟨rfl, rfl, rfl, rfl, rfl, rfl, rfl, rfl⟩
      intro w4 hR4 hg4 hs4
      have hbw4 : Below w.heap.size w w4 := hbw3.grown hg4 hbw3.size (by rintro j ⟨⟩; omega)
      go_wp2
      exact bodyPost_ret (results_row_tmp (g := w.heap.size + 1) (cs := r.cells) rfl _ _ _ _ _ rfl hR4 Tryz.underlying29 rfl size_name) rfl ⟨by rw [← Hr.out]; rfl, hbw4⟩
end Go.Proofs.YthmecidpjlaonaaGreat
namespace Go.Proofs.YthmecidpjlaonaaGreat
open Go.RowKit
attribute [local go_sem ↓] Go.wp_at_zero Go.wp_at_succ
theorem own_lo {w : World} {base e size n b : Nat} {v : Value} {xs : List Value} (h : w.ownsRow base e size v n xs) (hb : b < base) : some b ≠ v.ownBlock := fun e => by
  have := (h.lt _ e.symm).1; omega

end Go.Proofs.YthmecidpjlaonaaGreat
