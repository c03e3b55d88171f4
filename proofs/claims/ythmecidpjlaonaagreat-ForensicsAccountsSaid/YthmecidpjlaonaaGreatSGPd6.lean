/-
  Go's pattern-defeating quicksort at the library's own swapper: the swapper turns two elements of the list that lies in a block, at equal places too; breakPatterns permutes that list. No condition.
  Go's pattern-defeating quicksort, by a 'less' that may lay blocks: pdqsort permutes the list that lies in a block. Condition: the two function values that it is handed compare and swap.
  Go's sort.Slice, by a 'less' that may lay blocks: it permutes the list that lies in a block; of an empty slice it does nothing. Condition: the two function values compare and swap.
-/
import Derived.Test.YthmecidpjlaonaaGreatSGPd1
import Derived.Sort.OwnSorted
import Derived.Test.YthmecidpjlaonaaGreatSGPd4
namespace Go.Proofs.YthmecidpjlaonaaGreat
open Go.RowKit Go.Shelf Go.Sort

theorem split_two {α : Type} (l : List α) (i j : Nat) (hij : i < j) (hj : j < l.length) : ∃ (P M S : List α) (x y : α), l = P ++ x :: (M ++ y :: S) ∧ P.length = i ∧ P.length + 1 + M.length = j := by
  have e1 : l.drop i = l[i] :: l.drop (i + 1) := List.drop_eq_getElem_cons _
  have e3 : (l.drop (i + 1)).drop (j - i - 1) = l[j] :: l.drop (j + 1) := by
    rw [List.drop_drop, show i + 1 + (j - i - 1) = j from by omega]; exact List.drop_eq_getElem_cons _
  refine ⟨l.take i, (l.drop (i + 1)).take (j - i - 1), l.drop (j + 1), l[i], l[j], ?_, by simp; omega, by simp; omega⟩
  rw [← e3, List.take_append_drop, ← e1, List.take_append_drop]
theorem swapL_perm {α : Type} (l : List α) (i j : Nat) (hi : i < l.length) (hj : j < l.length) : (swapL l i j).Perm l := by
  have key : ∀ (l : List α) (i j : Nat), i < j → j < l.length → (swapL l i j).Perm l := fun l i j hij hj => by
    obtain ⟨P, M, S, x, y, e, h1, h2⟩ := split_two l i j hij hj
    rw [e, ← h2, ← h1, swapL_two]
    refine List.Perm.append_left P ?_
    exact ((List.perm_middle).cons y).trans ((List.Perm.swap x y _).trans ((List.perm_middle).symm.cons x))
  rcases Nat.lt_trichotomy i j with h | h | h
  · exact key l i j h hj
  · subst h
    unfold swapL
    rw [List.getElem?_eq_getElem hi]
    simp
  · rw [swapL_comm]
    exact key l j i h hi

section
variable {α : Type} [Inhabited α] (n cap : Nat)

/-- What is asked of the library's swapper: it is the model's, and an element has m cells. -/
structure Lit (enc : α → List Value) (m : Nat) (e : TypeId) (f : Nat) (gS : Bool) : Prop where
  hx : ∀ args W, (callFunc f args).run Tryz.prog W = ((Extern.ReflectliteSwapper.swap gS args).run Tryz.prog W).andThen fun v w' => .ok (.value v) w'
  ie : ∃ ie : TypeInfo, Tryz.prog.info? e = some ie ∧ ie.size = m
  agg : ∀ w, (isAgg e).run Tryz.prog w = .ok true w
  len : ∀ x, (enc x).length = m
  one : ∀ x, ∀ v ∈ enc x, v.oneCell' = true

omit [Inhabited α] in
theorem lit_run {enc : α → List Value} {m g : Nat} {e : TypeId} {f : Nat} {gS : Bool} (H : Lit enc m e f gS) (W : World) (l : List α) (i j : Nat) (hi : i < l.length) (hj : j < l.length) (hin : i < n) (hjn : j < n)
    (hcell : ∀ (k u : Nat) (z : α) (v : Value), l[k]? = some z → (enc z)[u]? = some v → W.cell? ⟨g, 0 + k * m + u, none⟩ = some v) (hfr : ∀ k, k < l.length → ∀ u, u < m → W.frozen? ⟨g, 0 + k * m + u, none⟩ = false) :
    (callFunc f (#[.int .i64 (i : Int), .int .i64 (j : Int)] ++ #[.slice (some ⟨g, 0, none⟩) n cap, typeHandle Tryz.prog e])).run Tryz.prog W = .ok (.value (.tuple #[])) ((W.setCells g (0 + i * m) (enc l[j])).setCells g (0 + j * m) (enc l[i])) := by
  obtain ⟨ie, hie, hsz⟩ := H.ie
  subst hsz
  have hrun := Lib.run_swap_cells (P := Tryz.prog) gS e ie hie H.agg g 0 n cap i j hin hjn (enc l[i]) (enc l[j]) (H.len _) (H.len _) (H.one _) (H.one _) W (fun u v hv => hcell i u _ v (List.getElem?_eq_getElem hi) hv) (fun u v hv => hcell j u _ v (List.getElem?_eq_getElem hj) hv)
    (fun u hu => hfr i hi u hu) (fun u hu => hfr j hj u hu)
  rw [H.hx, show (#[Value.int .i64 (i : Int), Value.int .i64 (j : Int)] ++ #[Value.slice (some ⟨g, 0, none⟩) n cap, typeHandle Tryz.prog e]) = #[.int .i64 i, .int .i64 j, .slice (some ⟨g, 0, none⟩) n cap, typeHandle Tryz.prog e] from rfl, hrun]
  rfl
omit [Inhabited α] in
theorem row_cell {c : CellsOf α} {m : Nat} {t : TypeId} {g : Nat} {W : World} {l : List α} (hm : ∀ x, (c.enc x).length = m) (hb : Blk W g t (l.flatMap c.enc ++ c.tail).toArray) (k u : Nat) (z : α) (v : Value) (hz : l[k]? = some z) (hv : (c.enc z)[u]? = some v) : W.cell? ⟨g, 0 + k * m + u, none⟩ = some v := by
  have hu : u < m := by rw [← hm z]; exact (List.getElem?_eq_some_iff.1 hv).1
  have h1 := flat_get c.enc m l (fun x _ => hm x) k u z hz hu
  rw [hv] at h1
  rw [hb.cell, Nat.zero_add, List.getElem?_toArray, List.getElem?_append_left (List.getElem?_eq_some_iff.1 h1).1, h1]

omit [Inhabited α] in
/-- An element stored into its place. -/
theorem put_elem {c : CellsOf α} {m : Nat} {t : TypeId} {g : Nat} {W : World} {l : List α} (hm : ∀ x, (c.enc x).length = m) (hb : Blk W g t (l.flatMap c.enc ++ c.tail).toArray) (i : Nat) (x : α) (hi : i < l.length) :
    Blk (W.setCells g (i * m) (c.enc x)) g t ((l.set i x).flatMap c.enc ++ c.tail).toArray ∧ W.grownBy (W.setCells g (i * m) (c.enc x)) (some g) := by
  have hlen := flat_length c.enc m l (fun x _ => hm x)
  have bi : i * m + m ≤ l.length * m := by
    have := Nat.mul_le_mul_right m (show i + 1 ≤ l.length by omega); rwa [Nat.succ_mul] at this
  obtain ⟨b1, k1⟩ := putCells_blk g t (c.enc x) (i * m) W _ hb (by rw [hm, List.length_append, hlen]; omega)
  refine ⟨?_, k1⟩
  rw [hm, List.take_append_of_le_length (by rw [hlen]; omega), List.drop_append_of_le_length (by rw [hlen]; omega), ← List.append_assoc, ← flat_set c.enc m l (fun x _ => hm x) i x hi] at b1
  exact b1
omit [Inhabited α] in
theorem swapAll_lit {c : CellsOf α} {m g : Nat} {e : TypeId} {f : Nat} {gS : Bool} (H : Lit c.enc m e f gS) (t : TypeId) (w0 : World) : SwapAll c t w0 g n f #[.slice (some ⟨g, 0, none⟩) n cap, typeHandle Tryz.prog e] := by
  intro W l i j hr hn hi hj _
  have hi' : i < l.length := by omega
  have hj' : j < l.length := by omega
  have hm := H.len
  have hrun := lit_run (g := g) (n := n) (cap := cap) H W l i j hi' hj' hi hj (fun k u z v => row_cell hm hr.blk k u z v) (fun k _ u _ => hr.blk.frozen _)
  obtain ⟨b1, k1⟩ := put_elem hm hr.blk i l[j] hi'
  obtain ⟨b2, k2⟩ := put_elem hm b1 j l[i] (by rw [List.length_set]; exact hj')
  refine ⟨_, by rw [hrun, Nat.zero_add, Nat.zero_add], swapL l i j, swapL_perm l i j hi' hj', ?_, k1.trans k2⟩
  unfold swapL
  rw [List.getElem?_eq_getElem hi', List.getElem?_eq_getElem hj']
  exact b2

/-! ### The kit's row and ours -/
theorem flat_eq {enc : α → List Value} {m : Nat} (hm : ∀ x, (enc x).length = m) (hm0 : 0 < m) (l : List α) : flatK enc m l.toArray = (l.flatMap enc).toArray := by
  have hl := flat_length enc m l (fun x _ => hm x)
  refine ext_get! (by simp [hl]) fun u hu => ?_
  have hu' : u < l.toArray.size * m := by simpa using hu
  rw [get_flatK enc m l.toArray u hu']
  have h1 : u / m < l.length := by
    rw [Nat.div_lt_iff_lt_mul hm0]; simpa using hu'
  have h2 : u % m < m := Nat.mod_lt _ hm0
  have h3 := flat_get enc m l (fun x _ => hm x) (u / m) (u % m) l[u / m] (List.getElem?_eq_getElem h1) h2
  rw [Nat.div_add_mod' u m] at h3
  have hu2 : u < (l.flatMap enc).length := by rw [hl]; simpa using hu'
  rw [List.getElem?_eq_getElem hu2, List.getElem?_eq_getElem (by rw [hm]; exact h2)] at h3
  rw [getElem!_pos l.toArray (u / m) (by simpa using h1), getElem!_pos (l.flatMap enc).toArray u (by simpa using hu2)]
  simp only [List.getElem_toArray]
  rw [getElem!_pos (enc l[u / m]) (u % m) (by rw [hm]; exact h2)]
  exact (Option.some.inj h3).symm
theorem holds_of {c : CellsOf α} {m : Nat} (hm : ∀ x, (c.enc x).length = m) (hm0 : 0 < m) {W : World} {g : Nat} {t : TypeId} {l : List α} (hb : Blk W g t (l.flatMap c.enc ++ c.tail).toArray) : HoldsK c.enc m W g 0 l.toArray := by
  intro u hu
  rw [flat_eq hm hm0] at hu ⊢
  refine ⟨?_, hb.frozen _⟩
  have hu2 : u < (l.flatMap c.enc).length := by simpa using hu
  rw [hb.cell, Nat.zero_add, getElem!_pos (l.flatMap c.enc).toArray u hu, List.getElem?_toArray, List.getElem?_append_left hu2, List.getElem?_eq_getElem hu2]
  rfl
theorem sortWorld_row {c : CellsOf α} {m : Nat} (hm : ∀ x, (c.enc x).length = m) (hm0 : 0 < m) {W : World} {g : Nat} {t : TypeId} {l l' : List α} (hb : Blk W g t (l.flatMap c.enc ++ c.tail).toArray) (hl : l'.length = l.length) (k : Nat) (os : Array Obj) :
    RowE c t W g l' (sortWorldK c.enc m W g 0 k l'.toArray os) := by
  have e : (l'.flatMap c.enc).length = (l.flatMap c.enc).length := by rw [flat_length c.enc m l' (fun x _ => hm x), flat_length c.enc m l (fun x _ => hm x), hl]
  unfold sortWorldK putRowK
  rw [flat_eq hm hm0]
  have hg : g < W.heap.size := hb.lt
  refine ⟨?_, rfl, rfl, rfl, by simp, fun i hi hne => ?_⟩
  · show (grow (putRow id (Sort.ahead W k) g 0 (l'.flatMap c.enc).toArray) os).heap[g]? = _
    rw [heap_grow_old _ _ (by simpa using hg)]
    have hb' : W.heap[g]? = some (.cells (l.flatMap c.enc ++ c.tail).toArray t (0, 0)) := hb
    simp only [putRow, mapBlock, Sort.ahead, Array.getElem?_modify, hb', onCells, if_true, Option.map_some]
    congr 2
    apply Array.ext
    · simp [putCells, e]
    · intro u h1 h2
      simp only [putCells, Array.getElem_mapIdx, Nat.zero_le, true_and, Nat.zero_add, Nat.sub_zero, id, List.getElem_toArray]
      by_cases hu : u < (l'.flatMap c.enc).length
      · rw [if_pos (by simpa using hu), getElem!_pos (l'.flatMap c.enc).toArray u (by simpa using hu), List.getElem_append_left hu]
        rfl
      · rw [if_neg (by simpa using hu), List.getElem_append_right (by omega), List.getElem_append_right (by omega)]
        simp only [e]
  · rw [heap_grow_old _ _ (by simpa using hi)]
    have : g ≠ i := fun e => hne (by rw [e])
    simp [putRow, mapBlock, Sort.ahead, Array.getElem?_modify, this]

/-- What breakPatterns must do. -/
def BrkOn (c : CellsOf α) (t : TypeId) (w0 : World) (g n f F : Nat) (sb lb : Array Value) (l0 : List α) : Prop :=
  ∀ (a b : Nat) (w : World), PRow c t g l0 w0 w → a + 12 < b → b ≤ n →
    Calls Tryz.prog 181 #[.agg #[.func (.func F) #[] lb, .func (.func f) #[] sb], .int .i64 (a : Int), .int .i64 (b : Int)] w fun e w' => e = .returned (.tuple #[]) ∧ PRow c t g l0 w w'
theorem brk_lit {c : CellsOf α} {m g : Nat} {e : TypeId} {f : Nat} {gS : Bool} (H : Lit c.enc m e f gS) (hm0 : 0 < m) (t : TypeId) (w0 : World) (F : Nat) (lb : Array Value) (l0 : List α) (hn : l0.length = n) (hsm : n ≤ 1000000) :
    BrkOn c t w0 g n f F #[.slice (some ⟨g, 0, none⟩) n cap, typeHandle Tryz.prog e] lb l0 := by
  intro a b w hw hab' hb
  have hab : a ≤ b := by omega
  obtain ⟨l, h1, h2⟩ := hw
  have hl : l.length = n := h2.length_eq.trans hn
  have hm := H.len
  have hS : SwapSwapsK Tryz.prog f #[.slice (some ⟨g, 0, none⟩) n cap, typeHandle Tryz.prog e] c.enc m g 0 l.toArray.size := by
    intro W dk hk hs i j hi hj
    simp only [List.size_toArray] at hs hi hj
    have hi' : i < dk.toList.length := by simpa [hs] using hi
    have hj' : j < dk.toList.length := by simpa [hs] using hj
    have key : ∀ (k u : Nat), k < dk.toList.length → u < m → W.cell? ⟨g, 0 + k * m + u, none⟩ = (c.enc dk.toList[k]!)[u]? ∧ W.frozen? ⟨g, 0 + k * m + u, none⟩ = false := fun k u hk' hu => by
      have hkd : k < dk.size := by simpa using hk'
      have hlt : k * m + u < dk.size * m := by
        have := Nat.mul_le_mul_right m (show k + 1 ≤ dk.size by omega); rw [Nat.succ_mul] at this; omega
      have h := hk (k * m + u) (by simpa using hlt)
      have hd : (k * m + u) / m = k := by rw [Nat.add_comm, Nat.add_mul_div_right _ _ hm0, Nat.div_eq_of_lt hu, Nat.zero_add]
      have hmo : (k * m + u) % m = u := by rw [Nat.add_comm, Nat.add_mul_mod_self_right, Nat.mod_eq_of_lt hu]
      rw [get_flatK c.enc m dk _ hlt, hd, hmo] at h
      rw [Nat.add_assoc]
      refine ⟨h.1.trans ?_, h.2⟩
      have e1 : dk[k]! = dk.toList[k]! := by rw [getElem!_pos dk k hkd, getElem!_pos dk.toList k hk']; rfl
      rw [e1, getElem!_pos (c.enc dk.toList[k]!) u (by rw [hm]; exact hu), List.getElem?_eq_getElem (by rw [hm]; exact hu)]
      rfl
    have hrun := lit_run (g := g) (n := n) (cap := cap) H W dk.toList i j hi' hj' (by omega) (by omega)
      (fun k u z v hz hv => by
        have hk' := (List.getElem?_eq_some_iff.1 hz).1
        have hu : u < m := by rw [← hm z]; exact (List.getElem?_eq_some_iff.1 hv).1
        have ez : dk.toList[k]! = z := by rw [getElem!_pos dk.toList k hk']; exact (List.getElem?_eq_some_iff.1 hz).2
        rw [(key k u hk' hu).1, ez, hv]) (fun k hk' u hu => (key k u hk' hu).2)
    rw [hrun, getElem!_pos dk j (by simpa using hj'), getElem!_pos dk i (by simpa using hi')]
    rfl
  have hH : HoldsK c.enc m w g 0 l.toArray := holds_of hm hm0 h1.blk
  refine (Any.breakPatterns_func_cells_w { slLays with } c.enc m hm (.func F) #[] lb f #[.slice (some ⟨g, 0, none⟩) n cap, typeHandle Tryz.prog e] g 0 a b l.toArray w hS hH h1.blk.lt hab (by simp; omega) (by simp; omega)).mono ?_
  rintro e w' ⟨rfl, k, os, rfl⟩
  have hp := breakPatterns_holds l.toArray a b hab (by simp; omega)
  refine ⟨rfl, (breakPatterns l.toArray a b).toList, ?_, ?_⟩
  · have hsz : (breakPatterns l.toArray a b).toList.length = l.length := by
      have := hp.1; simpa using this
    have := sortWorld_row hm hm0 h1.blk hsz k os
    simpa using this
  · have hq := permIn_mono l.toArray (breakPatterns l.toArray a b) a b 0 l.toArray.size (Nat.zero_le _) (by simp; omega) (Nat.le_refl _) hp
    have h3 := hq.2.2
    rw [Array.extract_size, ← hq.1, Array.extract_size] at h3
    exact h3.trans h2
end
end Go.Proofs.YthmecidpjlaonaaGreat
namespace Go.Proofs.YthmecidpjlaonaaGreat
open Go.RowKit

section
variable {α : Type} {c : CellsOf α} {t : TypeId} {w0 : World} {g n f F : Nat} {sb lb : Array Value} {lt : α → α → Bool} {l0 : List α}

theorem PRow.gltW {A B : World} (h : PRow c t g l0 A B) : g < B.heap.size := by
  obtain ⟨l, h1, _⟩ := h
  exact h1.blk.lt
set_option maxRecDepth 100000 in
set_option maxHeartbeats 64000000 in
theorem pdq_any (H : Srt c t w0 g n f F sb lb lt l0) (HB : BrkOn c t w0 g n f F sb lb l0) : ∀ (m A Z L0 : Nat) (w : World), PRow c t g l0 w0 w → A ≤ Z → Z ≤ n → Z - A ≤ m → L0 ≤ 1000000 →
    Calls Tryz.prog 144 #[.agg #[.func (.func F) #[] lb, .func (.func f) #[] sb], .int .i64 (A : Int), .int .i64 (Z : Int), .int .i64 (L0 : Int)] w fun e w' => e = .returned (.tuple #[]) ∧ PRow c t g l0 w w' := by
  intro m
  induction m using Nat.strongRecOn with
  | _ m ih =>
  intro A Z L0 w hw hAZ hZn hZm hL0
  have HIH : Hid (∀ (a b L : Nat) (w : World), PRow c t g l0 w0 w → a ≤ b → b ≤ n → b - a < m → L ≤ 1000000 → Calls Tryz.prog 144 #[.agg #[.func (.func F) #[] lb, .func (.func f) #[] sb], .int .i64 (a : Int), .int .i64 (b : Int), .int .i64 (L : Int)] w fun e w' => e = .returned (.tuple #[]) ∧ PRow c t g l0 w w') :=
    fun a b L w h1 h2 h3 h4 h5 => ih (b - a) h4 a b L w h1 h2 h3 (Nat.le_refl _) h5
  have HBr := Lib.hid HB
  clear ih HB
  have HH := Lib.hid H
  have hgw : g < w.heap.size := hw.glt
  obtain ⟨B, hB⟩ : ∃ B, B = w.alloc (.cells #[.func (.func F) #[] lb, .func (.func f) #[] sb] 154) := ⟨_, rfl⟩
  have h0B : PRow c t g l0 w0 B := by rw [hB]; exact hw.alloc _
  have hBB : PRow c t g l0 B B := h0B.self
  have hBx : Blk B w.heap.size 154 #[.func (.func F) #[] lb, .func (.func f) #[] sb] := by rw [hB]; exact Blk.new _ _ _
  have HOff : Hid (∀ V, PRow c t g l0 B V → PRow c t g l0 w V) := fun V h => by rw [hB] at h; exact h.off
  have HB0 := Lib.hid h0B
  have HC : Hid (∀ V, PRow c t g l0 B V → V.cell? ⟨w.heap.size, 0, none⟩ = some (.func (.func F) #[] lb) ∧ V.cell? ⟨w.heap.size, 1, none⟩ = some (.func (.func f) #[] sb)) := fun V h => ⟨(h.box hBx (by omega)).cell 0, (h.box hBx (by omega)).cell 1⟩
  have eg := H.eg
  have hn6 := H.small
  have HW := Lib.hid hB
  have HBB := Lib.hid hBB
  clear hw hB h0B hBB hBx H
  go_enter Tryz.func144, Tryz.ntmps144
  go_upto_region 1 with fail
  simp only [← HW.out]
  go_upto_region 3 with fail
  go_loopw [1, 2, 3, 8, 9] (fun av bv lv xv yv wr => ∃ (a b L : Nat) (wb wp : Bool), av = .int .i64 (a : Int) ∧ bv = .int .i64 (b : Int) ∧ lv = .int .i64 (L : Int) ∧ xv = .bool wb ∧ yv = .bool wp ∧ a ≤ b ∧ b ≤ n ∧ b - a ≤ m ∧ L ≤ 1000000 ∧ Hid (PRow c t g l0 B wr)) (fun av bv _ _ _ _ => (intOf bv).toNat - (intOf av).toNat)
  case atStart => exact ⟨A, Z, L0, true, true, rfl, rfl, rfl, rfl, rfl, hAZ, hZn, hZm, hL0, HBB⟩
  case round =>
    clear hAZ hZn hZm hL0
    obtain ⟨a, b, L, wb, wp, rfl, rfl, rfl, rfl, rfl, hab, hbn, hbm, hL, HP⟩ := hrel
    obtain ⟨c0, c1⟩ := HC.out _ HP.out
    by_cases h12 : b ≤ a + 12
    · have d12 : decide ((b : Int) - (a : Int) ≤ 12) = true := by simp; omega
      go_wp2_with (go_at_call 154; refine (insertP_any HH.out a b _ (HB0.out.trans HP.out) (by omega) (by omega)).mono ?_; rintro en w2 ⟨rfl, hp⟩; have HP2 := Lib.hid (HP.out.trans hp); obtain ⟨c0, c1⟩ := HC.out _ (HP.out.trans hp); clear hp)
      first
        | go_end0
        | refine bodyPost_ret (results_none rfl _ _ _) rfl ?_
      exact ⟨rfl, HOff.out _ HP2.out⟩
    · have d12 : decide ((b : Int) - (a : Int) ≤ 12) = false := by simp; omega
      rcases Nat.eq_zero_or_pos L with hL0 | hL0
      · subst hL0
        go_wp2_with (go_at_call 180; refine (heapSort_any HH.out a b _ (HB0.out.trans HP.out) (by omega) (by omega)).mono ?_; rintro en w2 ⟨rfl, hp⟩; have HP2 := Lib.hid (HP.out.trans hp); obtain ⟨c0, c1⟩ := HC.out _ (HP.out.trans hp); clear hp)
        first
          | go_end0
          | refine bodyPost_ret (results_none rfl _ _ _) rfl ?_
        exact ⟨rfl, HOff.out _ HP2.out⟩
      · have e0 : ((L : Int) == 0) = false := by simp; omega
        cases wb with
        | false =>
          obtain ⟨L, rfl⟩ : ∃ L', L = L' + 1 := ⟨L - 1, by omega⟩
          go_upto_region 10 with (go_at_call 181; refine (HBr.out a b _ (HB0.out.trans HP.out) (by omega) (by omega)).mono ?_; rintro en w2 ⟨rfl, hp⟩; have HP2 := Lib.hid (HP.out.trans hp); obtain ⟨c0, c1⟩ := HC.out _ (HP.out.trans hp); clear hp)
          go_upto_region 12 with (go_at_call 182; refine (pivot_any HH.out a b _ (HB0.out.trans HP2.out) (HP2.out.gltW) (by omega) (by omega)).mono ?_; rintro en w101 ⟨x, h, rfl, hx, hp⟩; have HP101 := Lib.hid (HP2.out.trans hp); obtain ⟨c0, c1⟩ := HC.out _ (HP2.out.trans hp); clear hp)
          by_cases h2 : h = 2
          · subst h2
            obtain ⟨y, hy⟩ : ∃ y, y = (b - 1) - (x - a) := ⟨_, rfl⟩
            have hyI : (b : Int) - 1 - ((x : Int) - (a : Int)) = (y : Int) := by omega
            have hyb : a ≤ y ∧ y < b := by omega
            clear hy
            go_upto_region 14 with (go_at_call 183; refine (reverseRange_any HH.out a b _ (HB0.out.trans HP101.out) (by omega) (by omega)).mono ?_; rintro en w102 ⟨rfl, hp⟩; have HP102 := Lib.hid (HP101.out.trans hp); obtain ⟨c0, c1⟩ := HC.out _ (HP101.out.trans hp); clear hp)
            go_upto_region 18 with fail
            by_cases ha : 0 < a
            · have da : decide (0 < (a : Int)) = true := by simp; omega
              go_wp2_with fail
              have hl := HH.out.less HB0.out HP102.out (a - 1) (y) (by omega) (by omega)
              try push_cast at hl
              rw [show ((a - 1 : Nat) : Int) = (a : Int) - 1 from by omega] at hl
              refine hl.mono ?_
              clear hl
              rintro en w103 ⟨k103, rfl, hp⟩
              have HP103 := Lib.hid hp
              obtain ⟨c0, c1⟩ := HC.out _ hp
              clear hp
              cases k103 with
              | true =>
                go_upto_region 22 with (go_at_call 186; refine (part_any HH.out a b y _ (HB0.out.trans HP103.out) (by omega) (by omega) (by omega)).mono ?_; rintro en w105 ⟨k105, z105, rfl, hk1, hk2, hp⟩; have HP105 := Lib.hid (HP103.out.trans hp); obtain ⟨c0, c1⟩ := HC.out _ (HP103.out.trans hp); clear hp)
                by_cases hlr : k105 - a < b - k105
                · have dlr : decide ((k105 : Int) - (a : Int) < (b : Int) - (k105 : Int)) = true := by simp; omega
                  go_wp2_with (go_at_call 144; refine (HIH.out a k105 L _ (HB0.out.trans HP105.out) (by omega) (by omega) (by omega) (by omega)).mono ?_; rintro en w106 ⟨rfl, hp⟩; have HP106 := Lib.hid (HP105.out.trans hp); obtain ⟨c0, c1⟩ := HC.out _ (HP105.out.trans hp); clear hp)
                  go_roundw
                  case rel => exact ⟨k105 + 1, b, L, _, _, by go_num, by go_num, rfl, rfl, rfl, by omega, by omega, by omega, by omega, HP106⟩
                  case measure => simp [intOf]; omega
                · have dlr : decide ((k105 : Int) - (a : Int) < (b : Int) - (k105 : Int)) = false := by simp; omega
                  have hih := HIH.out (k105 + 1) b L
                  push_cast at hih
                  have HI2 := Lib.hid hih
                  clear hih
                  go_wp2_with (go_at_call 144; refine (HI2.out _ (HB0.out.trans HP105.out) (by omega) (by omega) (by omega) (by omega)).mono ?_; rintro en w107 ⟨rfl, hp⟩; have HP107 := Lib.hid (HP105.out.trans hp); obtain ⟨c0, c1⟩ := HC.out _ (HP105.out.trans hp); clear hp)
                  go_roundw
                  case rel => exact ⟨a, k105, L, _, _, by go_num, by go_num, rfl, rfl, rfl, by omega, by omega, by omega, by omega, HP107⟩
                  case measure => simp [intOf]; omega
              | false =>
                go_wp2_with (go_at_call 185; refine (partEq_any HH.out a b y _ (HB0.out.trans HP103.out) (by omega) (by omega) (by omega)).mono ?_; rintro en w104 ⟨k104, rfl, hk1, hk2, hp⟩; have HP104 := Lib.hid (HP103.out.trans hp); obtain ⟨c0, c1⟩ := HC.out _ (HP103.out.trans hp); clear hp)
                go_roundw
                case rel => exact ⟨k104, b, L, _, _, by go_num, by go_num, rfl, rfl, rfl, by omega, by omega, by omega, by omega, HP104⟩
                case measure => simp [intOf]; omega
            · have da : decide (0 < (a : Int)) = false := by simp; omega
              go_upto_region 22 with (go_at_call 186; refine (part_any HH.out a b y _ (HB0.out.trans HP102.out) (by omega) (by omega) (by omega)).mono ?_; rintro en w108 ⟨k108, z108, rfl, hk1, hk2, hp⟩; have HP108 := Lib.hid (HP102.out.trans hp); obtain ⟨c0, c1⟩ := HC.out _ (HP102.out.trans hp); clear hp)
              by_cases hlr : k108 - a < b - k108
              · have dlr : decide ((k108 : Int) - (a : Int) < (b : Int) - (k108 : Int)) = true := by simp; omega
                go_wp2_with (go_at_call 144; refine (HIH.out a k108 L _ (HB0.out.trans HP108.out) (by omega) (by omega) (by omega) (by omega)).mono ?_; rintro en w109 ⟨rfl, hp⟩; have HP109 := Lib.hid (HP108.out.trans hp); obtain ⟨c0, c1⟩ := HC.out _ (HP108.out.trans hp); clear hp)
                go_roundw
                case rel => exact ⟨k108 + 1, b, L, _, _, by go_num, by go_num, rfl, rfl, rfl, by omega, by omega, by omega, by omega, HP109⟩
                case measure => simp [intOf]; omega
              · have dlr : decide ((k108 : Int) - (a : Int) < (b : Int) - (k108 : Int)) = false := by simp; omega
                have hih := HIH.out (k108 + 1) b L
                push_cast at hih
                have HI2 := Lib.hid hih
                clear hih
                go_wp2_with (go_at_call 144; refine (HI2.out _ (HB0.out.trans HP108.out) (by omega) (by omega) (by omega) (by omega)).mono ?_; rintro en w110 ⟨rfl, hp⟩; have HP110 := Lib.hid (HP108.out.trans hp); obtain ⟨c0, c1⟩ := HC.out _ (HP108.out.trans hp); clear hp)
                go_roundw
                case rel => exact ⟨a, k108, L, _, _, by go_num, by go_num, rfl, rfl, rfl, by omega, by omega, by omega, by omega, HP110⟩
                case measure => simp [intOf]; omega
          · have e2 : (h == 2) = false := by simp [h2]
            go_upto_region 18 with fail
            by_cases ha : 0 < a
            · have da : decide (0 < (a : Int)) = true := by simp; omega
              go_wp2_with fail
              have hl := HH.out.less HB0.out HP101.out (a - 1) (x) (by omega) (by omega)
              try push_cast at hl
              rw [show ((a - 1 : Nat) : Int) = (a : Int) - 1 from by omega] at hl
              refine hl.mono ?_
              clear hl
              rintro en w111 ⟨k111, rfl, hp⟩
              have HP111 := Lib.hid hp
              obtain ⟨c0, c1⟩ := HC.out _ hp
              clear hp
              cases k111 with
              | true =>
                go_upto_region 22 with (go_at_call 186; refine (part_any HH.out a b x _ (HB0.out.trans HP111.out) (by omega) (by omega) (by omega)).mono ?_; rintro en w113 ⟨k113, z113, rfl, hk1, hk2, hp⟩; have HP113 := Lib.hid (HP111.out.trans hp); obtain ⟨c0, c1⟩ := HC.out _ (HP111.out.trans hp); clear hp)
                by_cases hlr : k113 - a < b - k113
                · have dlr : decide ((k113 : Int) - (a : Int) < (b : Int) - (k113 : Int)) = true := by simp; omega
                  go_wp2_with (go_at_call 144; refine (HIH.out a k113 L _ (HB0.out.trans HP113.out) (by omega) (by omega) (by omega) (by omega)).mono ?_; rintro en w114 ⟨rfl, hp⟩; have HP114 := Lib.hid (HP113.out.trans hp); obtain ⟨c0, c1⟩ := HC.out _ (HP113.out.trans hp); clear hp)
                  go_roundw
                  case rel => exact ⟨k113 + 1, b, L, _, _, by go_num, by go_num, rfl, rfl, rfl, by omega, by omega, by omega, by omega, HP114⟩
                  case measure => simp [intOf]; omega
                · have dlr : decide ((k113 : Int) - (a : Int) < (b : Int) - (k113 : Int)) = false := by simp; omega
                  have hih := HIH.out (k113 + 1) b L
                  push_cast at hih
                  have HI2 := Lib.hid hih
                  clear hih
                  go_wp2_with (go_at_call 144; refine (HI2.out _ (HB0.out.trans HP113.out) (by omega) (by omega) (by omega) (by omega)).mono ?_; rintro en w115 ⟨rfl, hp⟩; have HP115 := Lib.hid (HP113.out.trans hp); obtain ⟨c0, c1⟩ := HC.out _ (HP113.out.trans hp); clear hp)
                  go_roundw
                  case rel => exact ⟨a, k113, L, _, _, by go_num, by go_num, rfl, rfl, rfl, by omega, by omega, by omega, by omega, HP115⟩
                  case measure => simp [intOf]; omega
              | false =>
                go_wp2_with (go_at_call 185; refine (partEq_any HH.out a b x _ (HB0.out.trans HP111.out) (by omega) (by omega) (by omega)).mono ?_; rintro en w112 ⟨k112, rfl, hk1, hk2, hp⟩; have HP112 := Lib.hid (HP111.out.trans hp); obtain ⟨c0, c1⟩ := HC.out _ (HP111.out.trans hp); clear hp)
                go_roundw
                case rel => exact ⟨k112, b, L, _, _, by go_num, by go_num, rfl, rfl, rfl, by omega, by omega, by omega, by omega, HP112⟩
                case measure => simp [intOf]; omega
            · have da : decide (0 < (a : Int)) = false := by simp; omega
              go_upto_region 22 with (go_at_call 186; refine (part_any HH.out a b x _ (HB0.out.trans HP101.out) (by omega) (by omega) (by omega)).mono ?_; rintro en w116 ⟨k116, z116, rfl, hk1, hk2, hp⟩; have HP116 := Lib.hid (HP101.out.trans hp); obtain ⟨c0, c1⟩ := HC.out _ (HP101.out.trans hp); clear hp)
              by_cases hlr : k116 - a < b - k116
              · have dlr : decide ((k116 : Int) - (a : Int) < (b : Int) - (k116 : Int)) = true := by simp; omega
                go_wp2_with (go_at_call 144; refine (HIH.out a k116 L _ (HB0.out.trans HP116.out) (by omega) (by omega) (by omega) (by omega)).mono ?_; rintro en w117 ⟨rfl, hp⟩; have HP117 := Lib.hid (HP116.out.trans hp); obtain ⟨c0, c1⟩ := HC.out _ (HP116.out.trans hp); clear hp)
                go_roundw
                case rel => exact ⟨k116 + 1, b, L, _, _, by go_num, by go_num, rfl, rfl, rfl, by omega, by omega, by omega, by omega, HP117⟩
                case measure => simp [intOf]; omega
              · have dlr : decide ((k116 : Int) - (a : Int) < (b : Int) - (k116 : Int)) = false := by simp; omega
                have hih := HIH.out (k116 + 1) b L
                push_cast at hih
                have HI2 := Lib.hid hih
                clear hih
                go_wp2_with (go_at_call 144; refine (HI2.out _ (HB0.out.trans HP116.out) (by omega) (by omega) (by omega) (by omega)).mono ?_; rintro en w118 ⟨rfl, hp⟩; have HP118 := Lib.hid (HP116.out.trans hp); obtain ⟨c0, c1⟩ := HC.out _ (HP116.out.trans hp); clear hp)
                go_roundw
                case rel => exact ⟨a, k116, L, _, _, by go_num, by go_num, rfl, rfl, rfl, by omega, by omega, by omega, by omega, HP118⟩
                case measure => simp [intOf]; omega
        | true =>
          go_upto_region 12 with (go_at_call 182; refine (pivot_any HH.out a b _ (HB0.out.trans HP.out) (HP.out.gltW) (by omega) (by omega)).mono ?_; rintro en w119 ⟨x, h, rfl, hx, hp⟩; have HP119 := Lib.hid (HP.out.trans hp); obtain ⟨c0, c1⟩ := HC.out _ (HP.out.trans hp); clear hp)
          by_cases h2 : h = 2
          · subst h2
            obtain ⟨y, hy⟩ : ∃ y, y = (b - 1) - (x - a) := ⟨_, rfl⟩
            have hyI : (b : Int) - 1 - ((x : Int) - (a : Int)) = (y : Int) := by omega
            have hyb : a ≤ y ∧ y < b := by omega
            clear hy
            go_upto_region 14 with (go_at_call 183; refine (reverseRange_any HH.out a b _ (HB0.out.trans HP119.out) (by omega) (by omega)).mono ?_; rintro en w120 ⟨rfl, hp⟩; have HP120 := Lib.hid (HP119.out.trans hp); obtain ⟨c0, c1⟩ := HC.out _ (HP119.out.trans hp); clear hp)
            cases wp with
            | false =>
              go_upto_region 18 with fail
              by_cases ha : 0 < a
              · have da : decide (0 < (a : Int)) = true := by simp; omega
                go_wp2_with fail
                have hl := HH.out.less HB0.out HP120.out (a - 1) (y) (by omega) (by omega)
                try push_cast at hl
                rw [show ((a - 1 : Nat) : Int) = (a : Int) - 1 from by omega] at hl
                refine hl.mono ?_
                clear hl
                rintro en w122 ⟨k122, rfl, hp⟩
                have HP122 := Lib.hid hp
                obtain ⟨c0, c1⟩ := HC.out _ hp
                clear hp
                cases k122 with
                | true =>
                  go_upto_region 22 with (go_at_call 186; refine (part_any HH.out a b y _ (HB0.out.trans HP122.out) (by omega) (by omega) (by omega)).mono ?_; rintro en w124 ⟨k124, z124, rfl, hk1, hk2, hp⟩; have HP124 := Lib.hid (HP122.out.trans hp); obtain ⟨c0, c1⟩ := HC.out _ (HP122.out.trans hp); clear hp)
                  by_cases hlr : k124 - a < b - k124
                  · have dlr : decide ((k124 : Int) - (a : Int) < (b : Int) - (k124 : Int)) = true := by simp; omega
                    go_wp2_with (go_at_call 144; refine (HIH.out a k124 L _ (HB0.out.trans HP124.out) (by omega) (by omega) (by omega) (by omega)).mono ?_; rintro en w125 ⟨rfl, hp⟩; have HP125 := Lib.hid (HP124.out.trans hp); obtain ⟨c0, c1⟩ := HC.out _ (HP124.out.trans hp); clear hp)
                    go_roundw
                    case rel => exact ⟨k124 + 1, b, L, _, _, by go_num, by go_num, rfl, rfl, rfl, by omega, by omega, by omega, by omega, HP125⟩
                    case measure => simp [intOf]; omega
                  · have dlr : decide ((k124 : Int) - (a : Int) < (b : Int) - (k124 : Int)) = false := by simp; omega
                    have hih := HIH.out (k124 + 1) b L
                    push_cast at hih
                    have HI2 := Lib.hid hih
                    clear hih
                    go_wp2_with (go_at_call 144; refine (HI2.out _ (HB0.out.trans HP124.out) (by omega) (by omega) (by omega) (by omega)).mono ?_; rintro en w126 ⟨rfl, hp⟩; have HP126 := Lib.hid (HP124.out.trans hp); obtain ⟨c0, c1⟩ := HC.out _ (HP124.out.trans hp); clear hp)
                    go_roundw
                    case rel => exact ⟨a, k124, L, _, _, by go_num, by go_num, rfl, rfl, rfl, by omega, by omega, by omega, by omega, HP126⟩
                    case measure => simp [intOf]; omega
                | false =>
                  go_wp2_with (go_at_call 185; refine (partEq_any HH.out a b y _ (HB0.out.trans HP122.out) (by omega) (by omega) (by omega)).mono ?_; rintro en w123 ⟨k123, rfl, hk1, hk2, hp⟩; have HP123 := Lib.hid (HP122.out.trans hp); obtain ⟨c0, c1⟩ := HC.out _ (HP122.out.trans hp); clear hp)
                  go_roundw
                  case rel => exact ⟨k123, b, L, _, _, by go_num, by go_num, rfl, rfl, rfl, by omega, by omega, by omega, by omega, HP123⟩
                  case measure => simp [intOf]; omega
              · have da : decide (0 < (a : Int)) = false := by simp; omega
                go_upto_region 22 with (go_at_call 186; refine (part_any HH.out a b y _ (HB0.out.trans HP120.out) (by omega) (by omega) (by omega)).mono ?_; rintro en w127 ⟨k127, z127, rfl, hk1, hk2, hp⟩; have HP127 := Lib.hid (HP120.out.trans hp); obtain ⟨c0, c1⟩ := HC.out _ (HP120.out.trans hp); clear hp)
                by_cases hlr : k127 - a < b - k127
                · have dlr : decide ((k127 : Int) - (a : Int) < (b : Int) - (k127 : Int)) = true := by simp; omega
                  go_wp2_with (go_at_call 144; refine (HIH.out a k127 L _ (HB0.out.trans HP127.out) (by omega) (by omega) (by omega) (by omega)).mono ?_; rintro en w128 ⟨rfl, hp⟩; have HP128 := Lib.hid (HP127.out.trans hp); obtain ⟨c0, c1⟩ := HC.out _ (HP127.out.trans hp); clear hp)
                  go_roundw
                  case rel => exact ⟨k127 + 1, b, L, _, _, by go_num, by go_num, rfl, rfl, rfl, by omega, by omega, by omega, by omega, HP128⟩
                  case measure => simp [intOf]; omega
                · have dlr : decide ((k127 : Int) - (a : Int) < (b : Int) - (k127 : Int)) = false := by simp; omega
                  have hih := HIH.out (k127 + 1) b L
                  push_cast at hih
                  have HI2 := Lib.hid hih
                  clear hih
                  go_wp2_with (go_at_call 144; refine (HI2.out _ (HB0.out.trans HP127.out) (by omega) (by omega) (by omega) (by omega)).mono ?_; rintro en w129 ⟨rfl, hp⟩; have HP129 := Lib.hid (HP127.out.trans hp); obtain ⟨c0, c1⟩ := HC.out _ (HP127.out.trans hp); clear hp)
                  go_roundw
                  case rel => exact ⟨a, k127, L, _, _, by go_num, by go_num, rfl, rfl, rfl, by omega, by omega, by omega, by omega, HP129⟩
                  case measure => simp [intOf]; omega
            | true =>
              go_wp2_with fail
              refine (partIns_any HH.out a b _ (HB0.out.trans HP120.out) (by omega) (by omega)).mono ?_
              rintro en w121 ⟨k121, rfl, hp⟩
              have HP121 := Lib.hid (HP120.out.trans hp)
              obtain ⟨c0, c1⟩ := HC.out _ (HP120.out.trans hp)
              clear hp
              cases k121
              · go_upto_region 18 with fail
                by_cases ha : 0 < a
                · have da : decide (0 < (a : Int)) = true := by simp; omega
                  go_wp2_with fail
                  have hl := HH.out.less HB0.out HP121.out (a - 1) (y) (by omega) (by omega)
                  try push_cast at hl
                  rw [show ((a - 1 : Nat) : Int) = (a : Int) - 1 from by omega] at hl
                  refine hl.mono ?_
                  clear hl
                  rintro en w130 ⟨k130, rfl, hp⟩
                  have HP130 := Lib.hid hp
                  obtain ⟨c0, c1⟩ := HC.out _ hp
                  clear hp
                  cases k130 with
                  | true =>
                    go_upto_region 22 with (go_at_call 186; refine (part_any HH.out a b y _ (HB0.out.trans HP130.out) (by omega) (by omega) (by omega)).mono ?_; rintro en w132 ⟨k132, z132, rfl, hk1, hk2, hp⟩; have HP132 := Lib.hid (HP130.out.trans hp); obtain ⟨c0, c1⟩ := HC.out _ (HP130.out.trans hp); clear hp)
                    by_cases hlr : k132 - a < b - k132
                    · have dlr : decide ((k132 : Int) - (a : Int) < (b : Int) - (k132 : Int)) = true := by simp; omega
                      go_wp2_with (go_at_call 144; refine (HIH.out a k132 L _ (HB0.out.trans HP132.out) (by omega) (by omega) (by omega) (by omega)).mono ?_; rintro en w133 ⟨rfl, hp⟩; have HP133 := Lib.hid (HP132.out.trans hp); obtain ⟨c0, c1⟩ := HC.out _ (HP132.out.trans hp); clear hp)
                      go_roundw
                      case rel => exact ⟨k132 + 1, b, L, _, _, by go_num, by go_num, rfl, rfl, rfl, by omega, by omega, by omega, by omega, HP133⟩
                      case measure => simp [intOf]; omega
                    · have dlr : decide ((k132 : Int) - (a : Int) < (b : Int) - (k132 : Int)) = false := by simp; omega
                      have hih := HIH.out (k132 + 1) b L
                      push_cast at hih
                      have HI2 := Lib.hid hih
                      clear hih
                      go_wp2_with (go_at_call 144; refine (HI2.out _ (HB0.out.trans HP132.out) (by omega) (by omega) (by omega) (by omega)).mono ?_; rintro en w134 ⟨rfl, hp⟩; have HP134 := Lib.hid (HP132.out.trans hp); obtain ⟨c0, c1⟩ := HC.out _ (HP132.out.trans hp); clear hp)
                      go_roundw
                      case rel => exact ⟨a, k132, L, _, _, by go_num, by go_num, rfl, rfl, rfl, by omega, by omega, by omega, by omega, HP134⟩
                      case measure => simp [intOf]; omega
                  | false =>
                    go_wp2_with (go_at_call 185; refine (partEq_any HH.out a b y _ (HB0.out.trans HP130.out) (by omega) (by omega) (by omega)).mono ?_; rintro en w131 ⟨k131, rfl, hk1, hk2, hp⟩; have HP131 := Lib.hid (HP130.out.trans hp); obtain ⟨c0, c1⟩ := HC.out _ (HP130.out.trans hp); clear hp)
                    go_roundw
                    case rel => exact ⟨k131, b, L, _, _, by go_num, by go_num, rfl, rfl, rfl, by omega, by omega, by omega, by omega, HP131⟩
                    case measure => simp [intOf]; omega
                · have da : decide (0 < (a : Int)) = false := by simp; omega
                  go_upto_region 22 with (go_at_call 186; refine (part_any HH.out a b y _ (HB0.out.trans HP121.out) (by omega) (by omega) (by omega)).mono ?_; rintro en w135 ⟨k135, z135, rfl, hk1, hk2, hp⟩; have HP135 := Lib.hid (HP121.out.trans hp); obtain ⟨c0, c1⟩ := HC.out _ (HP121.out.trans hp); clear hp)
                  by_cases hlr : k135 - a < b - k135
                  · have dlr : decide ((k135 : Int) - (a : Int) < (b : Int) - (k135 : Int)) = true := by simp; omega
                    go_wp2_with (go_at_call 144; refine (HIH.out a k135 L _ (HB0.out.trans HP135.out) (by omega) (by omega) (by omega) (by omega)).mono ?_; rintro en w136 ⟨rfl, hp⟩; have HP136 := Lib.hid (HP135.out.trans hp); obtain ⟨c0, c1⟩ := HC.out _ (HP135.out.trans hp); clear hp)
                    go_roundw
                    case rel => exact ⟨k135 + 1, b, L, _, _, by go_num, by go_num, rfl, rfl, rfl, by omega, by omega, by omega, by omega, HP136⟩
                    case measure => simp [intOf]; omega
                  · have dlr : decide ((k135 : Int) - (a : Int) < (b : Int) - (k135 : Int)) = false := by simp; omega
                    have hih := HIH.out (k135 + 1) b L
                    push_cast at hih
                    have HI2 := Lib.hid hih
                    clear hih
                    go_wp2_with (go_at_call 144; refine (HI2.out _ (HB0.out.trans HP135.out) (by omega) (by omega) (by omega) (by omega)).mono ?_; rintro en w137 ⟨rfl, hp⟩; have HP137 := Lib.hid (HP135.out.trans hp); obtain ⟨c0, c1⟩ := HC.out _ (HP135.out.trans hp); clear hp)
                    go_roundw
                    case rel => exact ⟨a, k135, L, _, _, by go_num, by go_num, rfl, rfl, rfl, by omega, by omega, by omega, by omega, HP137⟩
                    case measure => simp [intOf]; omega
              · go_wp2
                first
                  | go_end0
                  | refine bodyPost_ret (results_none rfl _ _ _) rfl ?_
                exact ⟨rfl, HOff.out _ HP121.out⟩
          · have e2 : (h == 2) = false := by simp [h2]
            by_cases h1 : h = 1
            · subst h1
              cases wp with
              | false =>
                go_upto_region 18 with fail
                by_cases ha : 0 < a
                · have da : decide (0 < (a : Int)) = true := by simp; omega
                  go_wp2_with fail
                  have hl := HH.out.less HB0.out HP119.out (a - 1) (x) (by omega) (by omega)
                  try push_cast at hl
                  rw [show ((a - 1 : Nat) : Int) = (a : Int) - 1 from by omega] at hl
                  refine hl.mono ?_
                  clear hl
                  rintro en w139 ⟨k139, rfl, hp⟩
                  have HP139 := Lib.hid hp
                  obtain ⟨c0, c1⟩ := HC.out _ hp
                  clear hp
                  cases k139 with
                  | true =>
                    go_upto_region 22 with (go_at_call 186; refine (part_any HH.out a b x _ (HB0.out.trans HP139.out) (by omega) (by omega) (by omega)).mono ?_; rintro en w141 ⟨k141, z141, rfl, hk1, hk2, hp⟩; have HP141 := Lib.hid (HP139.out.trans hp); obtain ⟨c0, c1⟩ := HC.out _ (HP139.out.trans hp); clear hp)
                    by_cases hlr : k141 - a < b - k141
                    · have dlr : decide ((k141 : Int) - (a : Int) < (b : Int) - (k141 : Int)) = true := by simp; omega
                      go_wp2_with (go_at_call 144; refine (HIH.out a k141 L _ (HB0.out.trans HP141.out) (by omega) (by omega) (by omega) (by omega)).mono ?_; rintro en w142 ⟨rfl, hp⟩; have HP142 := Lib.hid (HP141.out.trans hp); obtain ⟨c0, c1⟩ := HC.out _ (HP141.out.trans hp); clear hp)
                      go_roundw
                      case rel => exact ⟨k141 + 1, b, L, _, _, by go_num, by go_num, rfl, rfl, rfl, by omega, by omega, by omega, by omega, HP142⟩
                      case measure => simp [intOf]; omega
                    · have dlr : decide ((k141 : Int) - (a : Int) < (b : Int) - (k141 : Int)) = false := by simp; omega
                      have hih := HIH.out (k141 + 1) b L
                      push_cast at hih
                      have HI2 := Lib.hid hih
                      clear hih
                      go_wp2_with (go_at_call 144; refine (HI2.out _ (HB0.out.trans HP141.out) (by omega) (by omega) (by omega) (by omega)).mono ?_; rintro en w143 ⟨rfl, hp⟩; have HP143 := Lib.hid (HP141.out.trans hp); obtain ⟨c0, c1⟩ := HC.out _ (HP141.out.trans hp); clear hp)
                      go_roundw
                      case rel => exact ⟨a, k141, L, _, _, by go_num, by go_num, rfl, rfl, rfl, by omega, by omega, by omega, by omega, HP143⟩
                      case measure => simp [intOf]; omega
                  | false =>
                    go_wp2_with (go_at_call 185; refine (partEq_any HH.out a b x _ (HB0.out.trans HP139.out) (by omega) (by omega) (by omega)).mono ?_; rintro en w140 ⟨k140, rfl, hk1, hk2, hp⟩; have HP140 := Lib.hid (HP139.out.trans hp); obtain ⟨c0, c1⟩ := HC.out _ (HP139.out.trans hp); clear hp)
                    go_roundw
                    case rel => exact ⟨k140, b, L, _, _, by go_num, by go_num, rfl, rfl, rfl, by omega, by omega, by omega, by omega, HP140⟩
                    case measure => simp [intOf]; omega
                · have da : decide (0 < (a : Int)) = false := by simp; omega
                  go_upto_region 22 with (go_at_call 186; refine (part_any HH.out a b x _ (HB0.out.trans HP119.out) (by omega) (by omega) (by omega)).mono ?_; rintro en w144 ⟨k144, z144, rfl, hk1, hk2, hp⟩; have HP144 := Lib.hid (HP119.out.trans hp); obtain ⟨c0, c1⟩ := HC.out _ (HP119.out.trans hp); clear hp)
                  by_cases hlr : k144 - a < b - k144
                  · have dlr : decide ((k144 : Int) - (a : Int) < (b : Int) - (k144 : Int)) = true := by simp; omega
                    go_wp2_with (go_at_call 144; refine (HIH.out a k144 L _ (HB0.out.trans HP144.out) (by omega) (by omega) (by omega) (by omega)).mono ?_; rintro en w145 ⟨rfl, hp⟩; have HP145 := Lib.hid (HP144.out.trans hp); obtain ⟨c0, c1⟩ := HC.out _ (HP144.out.trans hp); clear hp)
                    go_roundw
                    case rel => exact ⟨k144 + 1, b, L, _, _, by go_num, by go_num, rfl, rfl, rfl, by omega, by omega, by omega, by omega, HP145⟩
                    case measure => simp [intOf]; omega
                  · have dlr : decide ((k144 : Int) - (a : Int) < (b : Int) - (k144 : Int)) = false := by simp; omega
                    have hih := HIH.out (k144 + 1) b L
                    push_cast at hih
                    have HI2 := Lib.hid hih
                    clear hih
                    go_wp2_with (go_at_call 144; refine (HI2.out _ (HB0.out.trans HP144.out) (by omega) (by omega) (by omega) (by omega)).mono ?_; rintro en w146 ⟨rfl, hp⟩; have HP146 := Lib.hid (HP144.out.trans hp); obtain ⟨c0, c1⟩ := HC.out _ (HP144.out.trans hp); clear hp)
                    go_roundw
                    case rel => exact ⟨a, k144, L, _, _, by go_num, by go_num, rfl, rfl, rfl, by omega, by omega, by omega, by omega, HP146⟩
                    case measure => simp [intOf]; omega
              | true =>
                go_wp2_with fail
                refine (partIns_any HH.out a b _ (HB0.out.trans HP119.out) (by omega) (by omega)).mono ?_
                rintro en w138 ⟨k138, rfl, hp⟩
                have HP138 := Lib.hid (HP119.out.trans hp)
                obtain ⟨c0, c1⟩ := HC.out _ (HP119.out.trans hp)
                clear hp
                cases k138
                · go_upto_region 18 with fail
                  by_cases ha : 0 < a
                  · have da : decide (0 < (a : Int)) = true := by simp; omega
                    go_wp2_with fail
                    have hl := HH.out.less HB0.out HP138.out (a - 1) (x) (by omega) (by omega)
                    try push_cast at hl
                    rw [show ((a - 1 : Nat) : Int) = (a : Int) - 1 from by omega] at hl
                    refine hl.mono ?_
                    clear hl
                    rintro en w147 ⟨k147, rfl, hp⟩
                    have HP147 := Lib.hid hp
                    obtain ⟨c0, c1⟩ := HC.out _ hp
                    clear hp
                    cases k147 with
                    | true =>
                      go_upto_region 22 with (go_at_call 186; refine (part_any HH.out a b x _ (HB0.out.trans HP147.out) (by omega) (by omega) (by omega)).mono ?_; rintro en w149 ⟨k149, z149, rfl, hk1, hk2, hp⟩; have HP149 := Lib.hid (HP147.out.trans hp); obtain ⟨c0, c1⟩ := HC.out _ (HP147.out.trans hp); clear hp)
                      by_cases hlr : k149 - a < b - k149
                      · have dlr : decide ((k149 : Int) - (a : Int) < (b : Int) - (k149 : Int)) = true := by simp; omega
                        go_wp2_with (go_at_call 144; refine (HIH.out a k149 L _ (HB0.out.trans HP149.out) (by omega) (by omega) (by omega) (by omega)).mono ?_; rintro en w150 ⟨rfl, hp⟩; have HP150 := Lib.hid (HP149.out.trans hp); obtain ⟨c0, c1⟩ := HC.out _ (HP149.out.trans hp); clear hp)
                        go_roundw
                        case rel => exact ⟨k149 + 1, b, L, _, _, by go_num, by go_num, rfl, rfl, rfl, by omega, by omega, by omega, by omega, HP150⟩
                        case measure => simp [intOf]; omega
                      · have dlr : decide ((k149 : Int) - (a : Int) < (b : Int) - (k149 : Int)) = false := by simp; omega
                        have hih := HIH.out (k149 + 1) b L
                        push_cast at hih
                        have HI2 := Lib.hid hih
                        clear hih
                        go_wp2_with (go_at_call 144; refine (HI2.out _ (HB0.out.trans HP149.out) (by omega) (by omega) (by omega) (by omega)).mono ?_; rintro en w151 ⟨rfl, hp⟩; have HP151 := Lib.hid (HP149.out.trans hp); obtain ⟨c0, c1⟩ := HC.out _ (HP149.out.trans hp); clear hp)
                        go_roundw
                        case rel => exact ⟨a, k149, L, _, _, by go_num, by go_num, rfl, rfl, rfl, by omega, by omega, by omega, by omega, HP151⟩
                        case measure => simp [intOf]; omega
                    | false =>
                      go_wp2_with (go_at_call 185; refine (partEq_any HH.out a b x _ (HB0.out.trans HP147.out) (by omega) (by omega) (by omega)).mono ?_; rintro en w148 ⟨k148, rfl, hk1, hk2, hp⟩; have HP148 := Lib.hid (HP147.out.trans hp); obtain ⟨c0, c1⟩ := HC.out _ (HP147.out.trans hp); clear hp)
                      go_roundw
                      case rel => exact ⟨k148, b, L, _, _, by go_num, by go_num, rfl, rfl, rfl, by omega, by omega, by omega, by omega, HP148⟩
                      case measure => simp [intOf]; omega
                  · have da : decide (0 < (a : Int)) = false := by simp; omega
                    go_upto_region 22 with (go_at_call 186; refine (part_any HH.out a b x _ (HB0.out.trans HP138.out) (by omega) (by omega) (by omega)).mono ?_; rintro en w152 ⟨k152, z152, rfl, hk1, hk2, hp⟩; have HP152 := Lib.hid (HP138.out.trans hp); obtain ⟨c0, c1⟩ := HC.out _ (HP138.out.trans hp); clear hp)
                    by_cases hlr : k152 - a < b - k152
                    · have dlr : decide ((k152 : Int) - (a : Int) < (b : Int) - (k152 : Int)) = true := by simp; omega
                      go_wp2_with (go_at_call 144; refine (HIH.out a k152 L _ (HB0.out.trans HP152.out) (by omega) (by omega) (by omega) (by omega)).mono ?_; rintro en w153 ⟨rfl, hp⟩; have HP153 := Lib.hid (HP152.out.trans hp); obtain ⟨c0, c1⟩ := HC.out _ (HP152.out.trans hp); clear hp)
                      go_roundw
                      case rel => exact ⟨k152 + 1, b, L, _, _, by go_num, by go_num, rfl, rfl, rfl, by omega, by omega, by omega, by omega, HP153⟩
                      case measure => simp [intOf]; omega
                    · have dlr : decide ((k152 : Int) - (a : Int) < (b : Int) - (k152 : Int)) = false := by simp; omega
                      have hih := HIH.out (k152 + 1) b L
                      push_cast at hih
                      have HI2 := Lib.hid hih
                      clear hih
                      go_wp2_with (go_at_call 144; refine (HI2.out _ (HB0.out.trans HP152.out) (by omega) (by omega) (by omega) (by omega)).mono ?_; rintro en w154 ⟨rfl, hp⟩; have HP154 := Lib.hid (HP152.out.trans hp); obtain ⟨c0, c1⟩ := HC.out _ (HP152.out.trans hp); clear hp)
                      go_roundw
                      case rel => exact ⟨a, k152, L, _, _, by go_num, by go_num, rfl, rfl, rfl, by omega, by omega, by omega, by omega, HP154⟩
                      case measure => simp [intOf]; omega
                · go_wp2
                  first
                    | go_end0
                    | refine bodyPost_ret (results_none rfl _ _ _) rfl ?_
                  exact ⟨rfl, HOff.out _ HP138.out⟩
            · have e1 : (h == 1) = false := by simp [h1]
              cases wp with
              | false =>
                go_upto_region 18 with fail
                by_cases ha : 0 < a
                · have da : decide (0 < (a : Int)) = true := by simp; omega
                  go_wp2_with fail
                  have hl := HH.out.less HB0.out HP119.out (a - 1) (x) (by omega) (by omega)
                  try push_cast at hl
                  rw [show ((a - 1 : Nat) : Int) = (a : Int) - 1 from by omega] at hl
                  refine hl.mono ?_
                  clear hl
                  rintro en w155 ⟨k155, rfl, hp⟩
                  have HP155 := Lib.hid hp
                  obtain ⟨c0, c1⟩ := HC.out _ hp
                  clear hp
                  cases k155 with
                  | true =>
                    go_upto_region 22 with (go_at_call 186; refine (part_any HH.out a b x _ (HB0.out.trans HP155.out) (by omega) (by omega) (by omega)).mono ?_; rintro en w157 ⟨k157, z157, rfl, hk1, hk2, hp⟩; have HP157 := Lib.hid (HP155.out.trans hp); obtain ⟨c0, c1⟩ := HC.out _ (HP155.out.trans hp); clear hp)
                    by_cases hlr : k157 - a < b - k157
                    · have dlr : decide ((k157 : Int) - (a : Int) < (b : Int) - (k157 : Int)) = true := by simp; omega
                      go_wp2_with (go_at_call 144; refine (HIH.out a k157 L _ (HB0.out.trans HP157.out) (by omega) (by omega) (by omega) (by omega)).mono ?_; rintro en w158 ⟨rfl, hp⟩; have HP158 := Lib.hid (HP157.out.trans hp); obtain ⟨c0, c1⟩ := HC.out _ (HP157.out.trans hp); clear hp)
                      go_roundw
                      case rel => exact ⟨k157 + 1, b, L, _, _, by go_num, by go_num, rfl, rfl, rfl, by omega, by omega, by omega, by omega, HP158⟩
                      case measure => simp [intOf]; omega
                    · have dlr : decide ((k157 : Int) - (a : Int) < (b : Int) - (k157 : Int)) = false := by simp; omega
                      have hih := HIH.out (k157 + 1) b L
                      push_cast at hih
                      have HI2 := Lib.hid hih
                      clear hih
                      go_wp2_with (go_at_call 144; refine (HI2.out _ (HB0.out.trans HP157.out) (by omega) (by omega) (by omega) (by omega)).mono ?_; rintro en w159 ⟨rfl, hp⟩; have HP159 := Lib.hid (HP157.out.trans hp); obtain ⟨c0, c1⟩ := HC.out _ (HP157.out.trans hp); clear hp)
                      go_roundw
                      case rel => exact ⟨a, k157, L, _, _, by go_num, by go_num, rfl, rfl, rfl, by omega, by omega, by omega, by omega, HP159⟩
                      case measure => simp [intOf]; omega
                  | false =>
                    go_wp2_with (go_at_call 185; refine (partEq_any HH.out a b x _ (HB0.out.trans HP155.out) (by omega) (by omega) (by omega)).mono ?_; rintro en w156 ⟨k156, rfl, hk1, hk2, hp⟩; have HP156 := Lib.hid (HP155.out.trans hp); obtain ⟨c0, c1⟩ := HC.out _ (HP155.out.trans hp); clear hp)
                    go_roundw
                    case rel => exact ⟨k156, b, L, _, _, by go_num, by go_num, rfl, rfl, rfl, by omega, by omega, by omega, by omega, HP156⟩
                    case measure => simp [intOf]; omega
                · have da : decide (0 < (a : Int)) = false := by simp; omega
                  go_upto_region 22 with (go_at_call 186; refine (part_any HH.out a b x _ (HB0.out.trans HP119.out) (by omega) (by omega) (by omega)).mono ?_; rintro en w160 ⟨k160, z160, rfl, hk1, hk2, hp⟩; have HP160 := Lib.hid (HP119.out.trans hp); obtain ⟨c0, c1⟩ := HC.out _ (HP119.out.trans hp); clear hp)
                  by_cases hlr : k160 - a < b - k160
                  · have dlr : decide ((k160 : Int) - (a : Int) < (b : Int) - (k160 : Int)) = true := by simp; omega
                    go_wp2_with (go_at_call 144; refine (HIH.out a k160 L _ (HB0.out.trans HP160.out) (by omega) (by omega) (by omega) (by omega)).mono ?_; rintro en w161 ⟨rfl, hp⟩; have HP161 := Lib.hid (HP160.out.trans hp); obtain ⟨c0, c1⟩ := HC.out _ (HP160.out.trans hp); clear hp)
                    go_roundw
                    case rel => exact ⟨k160 + 1, b, L, _, _, by go_num, by go_num, rfl, rfl, rfl, by omega, by omega, by omega, by omega, HP161⟩
                    case measure => simp [intOf]; omega
                  · have dlr : decide ((k160 : Int) - (a : Int) < (b : Int) - (k160 : Int)) = false := by simp; omega
                    have hih := HIH.out (k160 + 1) b L
                    push_cast at hih
                    have HI2 := Lib.hid hih
                    clear hih
                    go_wp2_with (go_at_call 144; refine (HI2.out _ (HB0.out.trans HP160.out) (by omega) (by omega) (by omega) (by omega)).mono ?_; rintro en w162 ⟨rfl, hp⟩; have HP162 := Lib.hid (HP160.out.trans hp); obtain ⟨c0, c1⟩ := HC.out _ (HP160.out.trans hp); clear hp)
                    go_roundw
                    case rel => exact ⟨a, k160, L, _, _, by go_num, by go_num, rfl, rfl, rfl, by omega, by omega, by omega, by omega, HP162⟩
                    case measure => simp [intOf]; omega
              | true =>
                go_upto_region 18 with fail
                by_cases ha : 0 < a
                · have da : decide (0 < (a : Int)) = true := by simp; omega
                  go_wp2_with fail
                  have hl := HH.out.less HB0.out HP119.out (a - 1) (x) (by omega) (by omega)
                  try push_cast at hl
                  rw [show ((a - 1 : Nat) : Int) = (a : Int) - 1 from by omega] at hl
                  refine hl.mono ?_
                  clear hl
                  rintro en w163 ⟨k163, rfl, hp⟩
                  have HP163 := Lib.hid hp
                  obtain ⟨c0, c1⟩ := HC.out _ hp
                  clear hp
                  cases k163 with
                  | true =>
                    go_upto_region 22 with (go_at_call 186; refine (part_any HH.out a b x _ (HB0.out.trans HP163.out) (by omega) (by omega) (by omega)).mono ?_; rintro en w165 ⟨k165, z165, rfl, hk1, hk2, hp⟩; have HP165 := Lib.hid (HP163.out.trans hp); obtain ⟨c0, c1⟩ := HC.out _ (HP163.out.trans hp); clear hp)
                    by_cases hlr : k165 - a < b - k165
                    · have dlr : decide ((k165 : Int) - (a : Int) < (b : Int) - (k165 : Int)) = true := by simp; omega
                      go_wp2_with (go_at_call 144; refine (HIH.out a k165 L _ (HB0.out.trans HP165.out) (by omega) (by omega) (by omega) (by omega)).mono ?_; rintro en w166 ⟨rfl, hp⟩; have HP166 := Lib.hid (HP165.out.trans hp); obtain ⟨c0, c1⟩ := HC.out _ (HP165.out.trans hp); clear hp)
                      go_roundw
                      case rel => exact ⟨k165 + 1, b, L, _, _, by go_num, by go_num, rfl, rfl, rfl, by omega, by omega, by omega, by omega, HP166⟩
                      case measure => simp [intOf]; omega
                    · have dlr : decide ((k165 : Int) - (a : Int) < (b : Int) - (k165 : Int)) = false := by simp; omega
                      have hih := HIH.out (k165 + 1) b L
                      push_cast at hih
                      have HI2 := Lib.hid hih
                      clear hih
                      go_wp2_with (go_at_call 144; refine (HI2.out _ (HB0.out.trans HP165.out) (by omega) (by omega) (by omega) (by omega)).mono ?_; rintro en w167 ⟨rfl, hp⟩; have HP167 := Lib.hid (HP165.out.trans hp); obtain ⟨c0, c1⟩ := HC.out _ (HP165.out.trans hp); clear hp)
                      go_roundw
                      case rel => exact ⟨a, k165, L, _, _, by go_num, by go_num, rfl, rfl, rfl, by omega, by omega, by omega, by omega, HP167⟩
                      case measure => simp [intOf]; omega
                  | false =>
                    go_wp2_with (go_at_call 185; refine (partEq_any HH.out a b x _ (HB0.out.trans HP163.out) (by omega) (by omega) (by omega)).mono ?_; rintro en w164 ⟨k164, rfl, hk1, hk2, hp⟩; have HP164 := Lib.hid (HP163.out.trans hp); obtain ⟨c0, c1⟩ := HC.out _ (HP163.out.trans hp); clear hp)
                    go_roundw
                    case rel => exact ⟨k164, b, L, _, _, by go_num, by go_num, rfl, rfl, rfl, by omega, by omega, by omega, by omega, HP164⟩
                    case measure => simp [intOf]; omega
                · have da : decide (0 < (a : Int)) = false := by simp; omega
                  go_upto_region 22 with (go_at_call 186; refine (part_any HH.out a b x _ (HB0.out.trans HP119.out) (by omega) (by omega) (by omega)).mono ?_; rintro en w168 ⟨k168, z168, rfl, hk1, hk2, hp⟩; have HP168 := Lib.hid (HP119.out.trans hp); obtain ⟨c0, c1⟩ := HC.out _ (HP119.out.trans hp); clear hp)
                  by_cases hlr : k168 - a < b - k168
                  · have dlr : decide ((k168 : Int) - (a : Int) < (b : Int) - (k168 : Int)) = true := by simp; omega
                    go_wp2_with (go_at_call 144; refine (HIH.out a k168 L _ (HB0.out.trans HP168.out) (by omega) (by omega) (by omega) (by omega)).mono ?_; rintro en w169 ⟨rfl, hp⟩; have HP169 := Lib.hid (HP168.out.trans hp); obtain ⟨c0, c1⟩ := HC.out _ (HP168.out.trans hp); clear hp)
                    go_roundw
                    case rel => exact ⟨k168 + 1, b, L, _, _, by go_num, by go_num, rfl, rfl, rfl, by omega, by omega, by omega, by omega, HP169⟩
                    case measure => simp [intOf]; omega
                  · have dlr : decide ((k168 : Int) - (a : Int) < (b : Int) - (k168 : Int)) = false := by simp; omega
                    have hih := HIH.out (k168 + 1) b L
                    push_cast at hih
                    have HI2 := Lib.hid hih
                    clear hih
                    go_wp2_with (go_at_call 144; refine (HI2.out _ (HB0.out.trans HP168.out) (by omega) (by omega) (by omega) (by omega)).mono ?_; rintro en w170 ⟨rfl, hp⟩; have HP170 := Lib.hid (HP168.out.trans hp); obtain ⟨c0, c1⟩ := HC.out _ (HP168.out.trans hp); clear hp)
                    go_roundw
                    case rel => exact ⟨a, k168, L, _, _, by go_num, by go_num, rfl, rfl, rfl, by omega, by omega, by omega, by omega, HP170⟩
                    case measure => simp [intOf]; omega
end
end Go.Proofs.YthmecidpjlaonaaGreat
namespace Go.Proofs.YthmecidpjlaonaaGreat
open Go.RowKit Go.Shelf

section
variable {F f : Nat} {sb lb : Array Value}
set_option maxRecDepth 100000 in
set_option maxHeartbeats 4000000 in
theorem ins0_any (lf sf : Value) (w : World) :
    Calls Tryz.prog 154 #[.agg #[lf, sf], .int .i64 0, .int .i64 0] w fun e w' => e = .returned (.tuple #[]) ∧ Below w.heap.size w w' := by
  go_enter Tryz.func154, Tryz.ntmps154
  go_wp2
  go_loopw [6] (fun iv wr => iv = .int .i64 1 ∧ Below w.heap.size w wr) (fun _ _ => 0)
  case atStart => exact ⟨by go_num, (Below.refl _ _).alloc (Nat.le_refl _) _⟩
  case round =>
    obtain ⟨rfl, hb⟩ := hrel
    go_wp2
    go_end0
    exact ⟨rfl, hb⟩
set_option maxRecDepth 100000 in
set_option maxHeartbeats 4000000 in
theorem pdq0_any (lf sf : Value) (L : Int) (w : World) :
    Calls Tryz.prog 144 #[.agg #[lf, sf], .int .i64 0, .int .i64 0, .int .i64 L] w fun e w' => e = .returned (.tuple #[]) ∧ Below w.heap.size w w' := by
  have HI := Lib.hid (fun W => ins0_any lf sf W)
  go_enter Tryz.func144, Tryz.ntmps144
  go_upto_region 3 with fail
  go_loopw [1, 2, 3, 8, 9] (fun av bv lv xv yv wr => av = .int .i64 0 ∧ bv = .int .i64 0 ∧ lv = .int .i64 L ∧ xv = .bool true ∧ yv = .bool true ∧ wr = w.alloc (.cells #[lf, sf] 154)) (fun _ _ _ _ _ _ => 0)
  case atStart => exact ⟨rfl, rfl, rfl, rfl, rfl, rfl⟩
  case round =>
    obtain ⟨rfl, rfl, rfl, rfl, rfl, hwr⟩ := hrel
    subst hwr
    go_wp2_with (go_at_call 154; refine (HI.out _).mono ?_; rintro en w2 ⟨rfl, hb⟩)
    refine bodyPost_ret (results_none rfl _ _ _) rfl ?_
    exact ⟨rfl, ((Below.refl _ _).alloc (Nat.le_refl _) _).trans (hb.mono (by simp))⟩
end
theorem bitLenAux_le : ∀ f x, Lib.bitLenAux f x ≤ f
  | 0, x => by simp [Lib.bitLenAux]
  | f + 1, x => by
    have := bitLenAux_le f (x / 2)
    unfold Lib.bitLenAux
    split <;> omega
theorem bitLen_le (x : Nat) : Lib.bitLen x ≤ 64 := bitLenAux_le 64 x
/-- Swapper's literal for a slice of n elements. -/
def litOf (n : Nat) : Nat := if n = 0 then 145 else if n = 1 then 146 else 153
/-- The facts of a slice's type that sort.Slice wants. -/
structure SlT (t e : TypeId) (m : Nat) : Prop where
  info : ∃ i, Tryz.prog.info? t = some i ∧ i.desc = .slice e
  packed : Tryz.prog.packed t = false
  elem : ∃ ie, Tryz.prog.info? e = some ie ∧ ie.size = m ∧ ∀ n, 2 ≤ n → Lib.swapperK n ie 25 = 9
  kind : ∀ w, (Extern.Rtype.kind e).run Tryz.prog w = .ok 25 w
  agg : ∀ w, (isAgg e).run Tryz.prog w = .ok true w
theorem lit_nine {α : Type} {enc : α → List Value} {m : Nat} {e t : TypeId} (S : SlT t e m) (hl : ∀ x, (enc x).length = m) (h1 : ∀ x, ∀ v ∈ enc x, v.oneCell' = true) : Lit enc m e 153 false := by
  obtain ⟨ie, h2, h3, _⟩ := S.elem
  exact ⟨fun args W => run_callFunc_extern Tryz.func153 (by kernel_rfl) (by kernel_rfl) (by kernel_rfl) (e := Extern.ReflectliteSwapper.swap false) (by kernel_rfl) args W, ⟨ie, h2, h3⟩, S.agg, hl, h1⟩
theorem lit_found {ie : TypeInfo} (h4 : ∀ n, 2 ≤ n → Lib.swapperK n ie 25 = 9) (n : Nat) :
    Tryz.prog.funcs.findIdx? (·.name == "internal/reflectlite" ++ ".Swapper$" ++ toString (Lib.swapperK n ie 25)) = some (litOf n) := by
  rcases Nat.lt_or_ge n 2 with h | h
  · rcases Nat.eq_zero_or_pos n with h0 | h0
    · subst h0; kernel_rfl
    · obtain rfl : n = 1 := by omega
      kernel_rfl
  · rw [h4 n h]
    unfold litOf
    rw [if_neg (by omega), if_neg (by omega)]
    kernel_rfl
set_option maxRecDepth 100000 in
/-- sort.Slice permutes. -/
theorem slice_any {α : Type} [Inhabited α] {F : Nat} {lb : Array Value} {lt : α → α → Bool} {t e : TypeId} {m : Nat} (S : SlT t e m) (c : CellsOf α) (hl : ∀ x, (c.enc x).length = m) (hm0 : 0 < m) (h1 : ∀ x, ∀ v ∈ c.enc x, v.oneCell' = true)
    (eg : ∀ args w, (callFunc F args).run Tryz.prog w = .ok (.enter F args) w) (l : List α) (g n cap : Nat) (w : World) (hle : LessE c e w g l lt F lb) (hblk : Blk w g e (l.flatMap c.enc ++ c.tail).toArray) (hn : l.length = n) (hsm : n ≤ 1000000) :
    Calls Tryz.prog 111 #[.iface t (.slice (some ⟨g, 0, none⟩) n cap), .func (.func F) #[] lb] w fun e' w' => e' = .returned (.tuple #[]) ∧ PRow c e g l w w' := by
  obtain ⟨i, hi, hd⟩ := S.info
  obtain ⟨ie, h2, h3, h4⟩ := S.elem
  have hrow : PRow c e g l w (sliceWorld Tryz.prog slRen t (some ⟨g, 0, none⟩) n cap w) := ⟨l, ((RowE.self hblk).alloc _).alloc _, List.Perm.refl _⟩
  have H9 := lit_nine (enc := c.enc) S hl h1
  refine Any.sort_Slice_of_pdq slLays t e i ie hi hd S.packed h2 25 S.kind (some ⟨g, 0, none⟩) n cap (by omega) (litOf n) (lit_found h4 n) (.func F) #[] lb w (fun w' => PRow c e g l w w') ?_
  by_cases h : 2 ≤ n
  · have e1 : litOf n = 153 := by unfold litOf; rw [if_neg (by omega), if_neg (by omega)]
    have e2 : sliceBound Tryz.prog e ie 25 (some ⟨g, 0, none⟩) n cap = #[.slice (some ⟨g, 0, none⟩) n cap, typeHandle Tryz.prog e] := by unfold sliceBound; rw [h4 n h]; rfl
    rw [e1, e2]
    have HS : Srt c e w g n 153 F #[.slice (some ⟨g, 0, none⟩) n cap, typeHandle Tryz.prog e] lb lt l := ⟨eg, hle, swapAll_lit n cap H9 e w, hn, hsm⟩
    exact (pdq_any HS (brk_lit n cap H9 hm0 e w F lb l hn hsm) n 0 n (Lib.bitLen n) _ hrow (Nat.zero_le _) (Nat.le_refl _) (by omega) (by have := bitLen_le n; omega)).mono fun e' w' h => ⟨h.1, hrow.trans h.2⟩
  · have HS : Srt c e w g n (litOf n) F (sliceBound Tryz.prog e ie 25 (some ⟨g, 0, none⟩) n cap) lb lt l := ⟨eg, hle, fun _ _ _ _ _ _ _ _ h' => absurd h' h, hn, hsm⟩
    exact (pdq_any HS (fun a b V _ hab hb => absurd hb (by omega)) n 0 n (Lib.bitLen n) _ hrow (Nat.zero_le _) (Nat.le_refl _) (by omega) (by have := bitLen_le n; omega)).mono fun e' w' h => ⟨h.1, hrow.trans h.2⟩
/-- .. of a nil slice it does nothing. -/
theorem slice_nil {F : Nat} {lb : Array Value} {t e : TypeId} {m : Nat} (S : SlT t e m) (cap : Nat) (w : World) :
    Calls Tryz.prog 111 #[.iface t (.slice none 0 cap), .func (.func F) #[] lb] w fun e' w' => e' = .returned (.tuple #[]) ∧ Below w.heap.size w w' := by
  obtain ⟨i, hi, hd⟩ := S.info
  obtain ⟨ie, h2, h3, h4⟩ := S.elem
  refine Any.sort_Slice_of_pdq slLays t e i ie hi hd S.packed h2 25 S.kind none 0 cap (by omega) (litOf 0) (lit_found h4 0) (.func F) #[] lb w (fun w' => Below w.heap.size w w') ?_
  refine (pdq0_any _ _ _ _).mono fun e' w' h => ⟨h.1, ?_⟩
  have hb : Below w.heap.size w (sliceWorld Tryz.prog slRen t none 0 cap w) := ((Below.refl _ _).alloc (Nat.le_refl _) _).alloc (by simp) _
  exact hb.trans (h.2.mono hb.size)
end Go.Proofs.YthmecidpjlaonaaGreat
