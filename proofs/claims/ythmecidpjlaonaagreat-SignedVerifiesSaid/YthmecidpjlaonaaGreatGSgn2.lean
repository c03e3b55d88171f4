/-
  manytime.NewKey makes a key of two levels; ready reports whether a key was made by it. No condition.
  A key of the program: what it holds (KeyAt); seedOf, tree and Public return a key's seed (seedF), the public names of a tree (treeF) and the key's public name (keyF). Condition: the numbers are small.
  A key's tree returns the public names of a tree (treeF) and keeps them in the key's map; its Public returns the key's public name (keyF). Condition: the numbers are small.
  A key's signed appends a part of a signature (partF); its Sign returns the signature of a leaf (sigF). Condition: the leaf is below the capacity.
  A key's Sign returns the signature of a leaf (sigF) and true; manytime.Public returns the public name of a key (keyF). Condition: the leaf is below the capacity.
-/
import Derived.Test.YthmecidpjlaonaaGreatGMap
import Derived.Test.YthmecidpjlaonaaGreatGSVer
import Derived.Deep.DeepCutAuto
import Derived.Test.YthmecidpjlaonaaGreatGSgn1
namespace Go.Proofs.YthmecidpjlaonaaGreat
open Go.RowKit
attribute [local go_sem ↓] Go.wp_at_zero Go.wp_at_succ loadNm
attribute [local go_sem] runNm pickRow_some rowAt_drew rowAt_drewN

abbrev keyCells (s : Nm) (m : Nat) : Array Value := #[B s.b0, B s.b1, B s.b2, B s.b3, B s.b4, B s.b5, B s.b6, B s.b7, I 2, .map (some m)]
/-- A new key: its block, its map. -/
def KeyPost (w : World) (s : Nm) (e : Ending) (w' : World) : Prop :=
  ∃ h m, e = .returned (.pointer (some ⟨h, 0, none⟩)) ∧ w.heap.size ≤ h ∧ w.heap.size ≤ m ∧ h ≠ m ∧ Blk w' h 172 (keyCells s m) ∧ w'.heap[m]? = some (.map #[] 0) ∧ Below w.heap.size w w'
set_option maxRecDepth 100000 in
set_option maxHeartbeats 1000000 in
theorem newKey_any (s : Nm) (w : World) : Calls Tryz.prog 103 #[s.val, .int .i64 2] w (KeyPost w s) := by
  have hx : rowAt (w.alloc (.cells s.cells 29)) w.heap.size 0 8 = some s.cells := (Blk.new w _ _).row 8 rfl
  have hmk : ∀ W : World, (Instr.makeMap 170 none).run Tryz.prog W = .ok (.map (some W.heap.size)) (W.alloc (.map #[] 0)) := fun W => rfl
  go_enter Tryz.func103, Tryz.ntmps103
  go_wp2_with (go_at_call 93; refine (cap2_any _).mono ?_; rintro en w2 ⟨rfl, rfl⟩)
  go_ret
  refine ⟨w.heap.size + 2, w.heap.size + 1, rfl, by omega, by omega, by omega, ?_, ?_, (((Below.refl _ _).alloc (Nat.le_refl _) _).alloc (by simp) _).alloc (by simp; omega) _⟩
  · have := Blk.new ((w.alloc (.cells s.cells 29)).alloc (.map #[] 0)) 172 (keyCells s (w.heap.size + 1))
    simpa using this
  · have h1 := heap_alloc_new (w.alloc (.cells s.cells 29)) (.map #[] 0)
    have h2 := Below.heap_alloc ((w.alloc (.cells s.cells 29)).alloc (.map #[] 0)) (.cells (keyCells s (w.heap.size + 1)) 172) (w.heap.size + 1) (by simp)
    rw [show (w.alloc (.cells s.cells 29)).heap.size = w.heap.size + 1 from by simp] at h1
    exact h2.trans h1

set_option maxRecDepth 100000 in
set_option maxHeartbeats 1000000 in
theorem ready_any (s : Nm) (h m : Nat) (w : World) (hB : Blk w h 172 (keyCells s m)) : Calls Tryz.prog 168 #[.pointer (some ⟨h, 0, none⟩)] w fun e w' => e = .returned (.bool true) ∧ w' = w := by
  have c9 : w.cell? ⟨h, 9, none⟩ = some (.map (some m)) := hB.cell 9
  clear hB
  have hne : ∀ W, (binOp .neq 170 (.map (some m)) (.map none)).run Tryz.prog W = .ok (.bool true) W := fun W => by first | rfl | kernel_rfl | (simp [binOp]; rfl)
  go_enter Tryz.func168, Tryz.ntmps168
  go_wp2
  go_ret
  exact ⟨rfl, rfl⟩
end Go.Proofs.YthmecidpjlaonaaGreat
namespace Go.Proofs.YthmecidpjlaonaaGreat
open Go.RowKit
attribute [local go_sem ↓] Go.wp_at_zero Go.wp_at_succ loadNm
attribute [local go_sem] runNm pickRow_some rowAt_drew rowAt_drewN

abbrev treeV (g : Nat) : Value := .slice (some ⟨g, 0, none⟩) 32 32
/-- The pairs of the map are trees of the seed. -/
def TreesOk (s : Nm) (w : World) (tl : List ((Int × Int) × Value)) : Prop :=
  ∀ k v, alook k tl = some v → ∃ level number g : Nat, k = ((level : Int), (number : Int)) ∧ v = treeV g ∧ NamesAt w g 32 (treeF s level number)
/-- Block h is a key with seed s whose map lies in block m; all trees in the map are right. -/
def KeyAt (s : Nm) (h m : Nat) (w : World) : Prop := Blk w h 172 (keyCells s m) ∧ h ≠ m ∧ ∃ tl, MapIs encT w m tl ∧ TreesOk s w tl
theorem TreesOk.below {s : Nm} {w w' : World} {tl : List ((Int × Int) × Value)} (h : TreesOk s w tl) (hb : Below w.heap.size w w') : TreesOk s w' tl := fun k v hk => by
  obtain ⟨a, b, g, h1, h2, h3⟩ := h k v hk
  exact ⟨a, b, g, h1, h2, h3.below hb h3.lt⟩
theorem KeyAt.below {s : Nm} {h m : Nat} {w w' : World} (hk : KeyAt s h m w) (hb : Below w.heap.size w w') : KeyAt s h m w' := by
  obtain ⟨h1, h2, tl, h3, h4⟩ := hk
  exact ⟨h1.below hb h1.lt, h2, tl, h3.below hb h3.lt, h4.below hb⟩
theorem KeyAt.drew {s : Nm} {h m : Nat} {w : World} (hk : KeyAt s h m w) : KeyAt s h m w.drew := hk
theorem blk_type {w : World} {g : Nat} {t t' : TypeId} {cs cs' : Array Value} (h : Blk w g t cs) (h' : Blk w g t' cs') : t = t' := by
  unfold Blk at h h'
  rw [h] at h'
  injection h' with h'
  injection h' with _ ht
/-- Another block, neither of names nor a key, has turned. -/
theorem KeyAt.far {s : Nm} {h m k t : Nat} {cs : Array Value} {w w' : World} (hk : KeyAt s h m w) (hB : Blk w k t cs) (ht : t ≠ 29) (ht2 : t ≠ 172) (hg : w.grownBy w' (some k)) : KeyAt s h m w' := by
  obtain ⟨h1, h2, tl, h3, h4⟩ := hk
  have hm : m ≠ k := by
    rintro rfl
    obtain ⟨es, c, h5, _⟩ := h3
    unfold Blk at hB
    rw [hB] at h5
    cases h5
  refine ⟨h1.kept hg (fun e => ?_), h2, tl, h3.kept hg (by simpa using hm), fun a b hab => ?_⟩
  · injection e with e
    subst e
    exact ht2 (blk_type hB h1)
  · obtain ⟨l, n, g, e1, e2, e3⟩ := h4 a b hab
    refine ⟨l, n, g, e1, e2, e3.kept hg (fun e => ?_)⟩
    injection e with e
    subst e
    obtain ⟨cur, hC, _⟩ := e3
    exact ht (blk_type hB hC)
/-- A row of bytes of the call's own has turned. -/
theorem KeyAt.own {s : Nm} {h m base n : Nat} {v : Value} {xs : List Value} {w w' : World} (hk : KeyAt s h m w) (ho : w.ownsRow base 5 1 v n xs) (hg : w.grownBy w' v.ownBlock) : KeyAt s h m w' := by
  rcases ho.2 with ⟨rfl, _⟩ | ⟨g, cap, cur, rfl, _, hh, _⟩
  · obtain ⟨h1, h2, tl, h3, h4⟩ := hk
    have hg' : w.grownBy w' none := hg
    refine ⟨h1.kept hg' (by simp), h2, tl, h3.kept hg' (by simp), fun a b hab => ?_⟩
    obtain ⟨l, n, g, e1, e2, e3⟩ := h4 a b hab
    exact ⟨l, n, g, e1, e2, e3.kept hg' (by simp)⟩
  · exact hk.far (k := g) (t := 5) (cs := cur) hh (by decide) (by decide) hg
theorem wpList_mapT {P : Program} {kt : TypeId} {κ : Type} [DecidableEq κ] {enc : κ → Value} {ops : Array Oper} {rest : List Oper} {o : Oper} {a : Act} {w : World} {Q : Exit → Act → World → Prop} (hg : o.guard = none) (t e : TypeId) (mo ko vo : Operand) (ho : o.op = .mapUpdate t mo ko vo)
    (m : Nat) (k : κ) (v : Value) (l : List (κ × Value)) (hm : a.eval mo = .map (some m)) (hk : a.eval ko = enc k) (hv : a.eval vo = v) (h : MapIs enc w m l) (K' : KeyOk P kt enc) (ht : P.underlying t = some (.map kt e))
    (hK : ∀ w', MapIs enc w' m (aput k v l) → w.grownBy w' (some m) → w'.heap.size = w.heap.size → wpList P ops Q rest (a.put o.dst undef) w') : wpList P ops Q (o :: rest) a w := by
  refine wpList_plain hg fun K hK2 => ?_
  obtain ⟨w', h1, h2, h3, h4⟩ := h.store K' ht k v (e := e)
  unfold Oper.wp execOp
  simp only [ho, hm, hk, hv, Sem.run_bind, h1, Result.andThen_ok, Sem.run_pure]
  exact hK2 _ _ (hK w' h2 h3 h4)

set_option maxRecDepth 100000 in
set_option maxHeartbeats 2000000 in
theorem seedOf_any (s r : Nm) (h m level number j : Nat) (w : World) (hB : Blk w h 172 (keyCells s m)) (hl : level ≤ 2) (hn : number < 32) (hj : j < 32) (hr : seedF s level number j = r) :
    Calls Tryz.prog 195 #[.pointer (some ⟨h, 0, none⟩), .int .i64 (level : Int), .int .i64 (number : Int), .int .i64 (j : Int)] w (NmPost w r) := by
  obtain ⟨i0, hi, hz0, hz1, hz2⟩ := info_parts info_byte
  have hr2 : sumF (48 :: (s.bytes ++ [UInt8.ofNat level, UInt8.ofNat (number / 256), UInt8.ofNat number, UInt8.ofNat j])) = r := hr
  have Hr := Lib.hid hr2; clear hr hr2
  have hb1 := bn_eq level (by omega)
  have hb4 := bn_eq j (by omega)
  have e2 : byteAt number 1 = UInt8.ofNat (number / 256) := by simp [byteAt]
  have e3 : byteAt number 0 = UInt8.ofNat number := by simp [byteAt]
  rw [← e2, ← e3] at Hr
  generalize UInt8.ofNat level = b1 at *
  generalize UInt8.ofNat j = b4 at *
  have HB1 := Lib.hid hb1; clear hb1
  have HB4 := Lib.hid hb4; clear hb4
  clear e2 e3
  have hWk : Blk (w.alloc (Obj.cells zero8 29)) h 172 (keyCells s m) := hB.alloc _
  have hR : Blk (w.alloc (Obj.cells zero8 29)) w.heap.size 29 zero8 := Blk.new w _ _
  have hb : Below w.heap.size w (w.alloc (Obj.cells zero8 29)) := (Below.refl _ _).alloc (Nat.le_refl _) _
  have hlt := hB.lt
  clear hB
  go_enter Tryz.func195, Tryz.ntmps195
  go_upto_region 1 with fail
  generalize (w.alloc (Obj.cells zero8 29)) = wr at *
  have hltX := hWk.lt
  go_upto_region 2 with (at_builtin; refine wpList_append_grows _ rfl (.tmp 13) (.tmp 16) _ rfl 5 i0 (.int .u8 0) 1 1 Tryz.underlying32 hi hz0 hz1 hz2 rfl (by decide) (some ⟨h, 0, none⟩) 8 8 (s.bytes.map B) rfl ?r0 rfl ?r1 ⟨wr.heap.size, 0, none⟩ 1 1 [B b1] rfl rfl ?r2 ?r3 ?r4 ?r5 ?r6 ?_)
  case r0 => intro h; cases h
  case r1 =>
    intro b hbe j u hu
    injection hbe with hbe; subst hbe
    rw [Addr.add_mid, Nat.zero_add, (hWk.alloc _).cell]
    have hj8 : j < 8 := by
      have := (List.getElem?_eq_some_iff.1 hu).1
      simpa [Nm.bytes] using this
    rw [← hu]
    rcases j with _ | _ | _ | _ | _ | _ | _ | _ | j <;> first | rfl | omega
  case r2 =>
    intro j u hu
    rw [Addr.add_mid, Nat.zero_add, (Blk.new wr _ _).cell, ← hu, HB1.out]
    simp
  case r3 => intro u hu; simp at hu; rcases hu with rfl; rfl
  case r4 => omega
  case r5 => unfold maxLen; omega
  case r6 => omega
  intro v2 w2 hown2 hg2
  have hR2 := (hR.alloc _).kept hg2 (by simp)
  have hb2 := below_none (hb.alloc hb.size _) hg2
  have e : s.bytes.map B ++ [B b1] = (s.bytes ++ [b1]).map B := by simp
  rw [e] at hown2
  obtain ⟨A2, c2, rfl⟩ := own_form hown2
  have HC2 : Hid (Calls Tryz.prog 71 #[.slice A2 (8 + 1) c2, .int .u64 (number : Int), .int .i64 2] w2 (RowPost w2 5 1 11 ((s.bytes ++ [b1] ++ [byteAt number 1, byteAt number 0]).map B))) := by
    have h := app2_any A2 9 c2 number ((s.bytes ++ [b1]).map B) w2 (by simp [Nm.bytes]) (Rd.of_own hown2) (fun u hu => bytes_one hu) (by omega)
    rw [List.map_append (l₂ := [byteAt number 1, byteAt number 0])]
    exact h
  clear e hown2 hg2 hWk hR hb
  try go_frame
  go_upto_region 3 with (go_at_call 71; refine HC2.out.mono ?_; rintro en w3 ⟨A3, c3, rfl, hown3, hb3⟩; have hR3 := hR2.below hb3 hR2.lt; have hbw3 := hb2.trans (hb3.mono hb2.size); have hsz := hb2.size; clear HC2)
  clear hR2 hb2
  try go_frame
  have HT : Hid (∀ (A4 : Option Addr) (c4 : Nat) (w4 : World), w4.ownsRow w.heap.size 5 1 (.slice A4 (11 + 1) c4) (11 + 1) ((s.bytes ++ [b1] ++ [byteAt number 1, byteAt number 0]).map B ++ [B b4]) → Calls Tryz.prog 96 #[.int .u8 48, .slice A4 (11 + 1) c4] w4 (NmPost w4 r)) := fun A4 c4 w4 ho => by
    have e : (s.bytes ++ [b1] ++ [byteAt number 1, byteAt number 0]).map B ++ [B b4] = (s.bytes ++ [b1, byteAt number 1, byteAt number 0, b4]).map B := by simp
    rw [e] at ho
    exact tagged_core 48 A4 c4 (s.bytes ++ [b1, byteAt number 1, byteAt number 0, b4]) r w4 (Rd.of_own ho) (by simp [Nm.bytes]) Hr.out
  go_wp2_with (first
    | (at_builtin; refine wpList_app rfl (.tmp 22) (.tmp 25) _ rfl w.heap.size 5 (.int .u8 0) 1 1 Tryz.underlying32 info_byte rfl (by decide) _ 11 _ rfl (own_base (hown3.alloc _) hsz) (w3.heap.size + 1) _ 1 1 [B b4] rfl rfl (by have h := Rd.one w3 (B b4) 5; rw [HB4.out] at h ⊢; exact h) (fun u hu => one_cell hu rfl) (by omega) (by unfold maxLen; omega) (by have := hbw3.size; simp; omega) ?_; intro v4 w4 hown4 hg4 hat4; have hR4 := (hR3.alloc _).kept hg4 (own_ne (own_base hown3 hsz) hR3 (by decide)); have hbw4 := below_own (hbw3.alloc hbw3.size _) (own_base (hown3.alloc _) hsz) hg4; obtain ⟨A4, c4, hv4⟩ := own_form hown4; subst hv4)
    | (go_at_call 96; refine (HT.out A4 c4 w4 hown4).mono ?_; rintro en w5 ⟨rfl, hb5⟩; have hR5 := hR4.below hb5 hR4.lt; have hbw5 := hbw4.trans (hb5.mono hbw4.size))
    | (refine wpList_store_blk rfl 29 (.tmp 8) (.tmp 27) rfl w.heap.size _ rfl rfl 29 _ hR5 rfl size_name (fun u hu => one_nm r hu) ?_))
  intro w6 hR6 hg6 hs6
  have hbw6 : Below w.heap.size w w6 := hbw5.grown hg6 hbw5.size (by rintro j ⟨⟩; omega)
  go_wp2
  exact bodyPost_ret (results_cell_row (g := w.heap.size) rfl _ _ _ _ _ _ rfl hR6 Tryz.underlying29 rfl size_name) rfl ⟨rfl, hbw6⟩
end Go.Proofs.YthmecidpjlaonaaGreat
namespace Go.Proofs.YthmecidpjlaonaaGreat
open Go.RowKit
attribute [local go_sem ↓] Go.wp_at_zero Go.wp_at_succ loadNm
attribute [local go_sem] runNm pickRow_some rowAt_drew rowAt_drewN

/-- The names of a tree lie in block g; the key is as it was but for its map. -/
def TreePost (s : Nm) (h m level number : Nat) (w : World) (e : Ending) (w' : World) : Prop :=
  ∃ g, e = .returned (treeV g) ∧ NamesAt w' g 32 (treeF s level number) ∧ KeyAt s h m w' ∧ w.grownBy w' (some m)
theorem below_grown {w w' : World} {row : Option Nat} (h : Below w.heap.size w w') : w.grownBy w' row := ⟨h.os, h.tape, h.output, h.size, fun i hi _ => h.block i hi⟩
theorem grown_new {w w1 w2 : World} {row : Option Nat} {k : Nat} (h1 : w.grownBy w1 row) (h2 : w1.grownBy w2 (some k)) (hk : w.heap.size ≤ k) : w.grownBy w2 row :=
  ⟨h2.os.trans h1.os, h2.tape.trans h1.tape, h2.output.trans h1.output, Nat.le_trans h1.size h2.size, fun i hi hne => (h2.block i (Nat.lt_of_lt_of_le hi h1.size) (by intro e; injection e with e; omega)).trans (h1.block i hi hne)⟩
/-- Another block, smaller than a tree, has turned. -/
theorem KeyAt.small {s : Nm} {h m k t : Nat} {cs : Array Value} {w w' : World} (hk : KeyAt s h m w) (hB : Blk w k t cs) (hs : cs.size < 256) (ht2 : t ≠ 172) (hg : w.grownBy w' (some k)) : KeyAt s h m w' := by
  obtain ⟨h1, h2, tl, h3, h4⟩ := hk
  have hm : m ≠ k := by
    rintro rfl
    obtain ⟨es, c, h5, _⟩ := h3
    unfold Blk at hB
    rw [hB] at h5
    cases h5
  refine ⟨h1.kept hg (fun e => ?_), h2, tl, h3.kept hg (by simpa using hm), fun a b hab => ?_⟩
  · injection e with e
    subst e
    exact ht2 (blk_type hB h1)
  · obtain ⟨l, n, g, e1, e2, e3⟩ := h4 a b hab
    refine ⟨l, n, g, e1, e2, e3.kept hg (fun e => ?_)⟩
    injection e with e
    subst e
    obtain ⟨cur, hC, hl, _⟩ := e3
    unfold Blk at hB hC
    rw [hB] at hC
    injection hC with hC
    injection hC with hC
    rw [hC] at hs
    simp at hs
    omega
set_option maxRecDepth 100000 in
theorem neq_tree (g : Nat) (W : World) : (binOp .neq 22 (treeV g) (.slice none 0 0)).run Tryz.prog W = .ok (.bool true) W := by first | rfl | kernel_rfl
set_option maxRecDepth 100000 in
theorem neq_nil (W : World) : (binOp .neq 22 (.slice none 0 0) (.slice none 0 0)).run Tryz.prog W = .ok (.bool false) W := by first | rfl | kernel_rfl

set_option maxRecDepth 100000 in
set_option maxHeartbeats 2000000 in
theorem tree_old (s : Nm) (h m level number g : Nat) (tl : List ((Int × Int) × Value)) (w : World) (hB : Blk w h 172 (keyCells s m)) (hM : MapIs encT w m tl) (ha : alook ((level : Int), (number : Int)) tl = some (treeV g)) :
    Calls Tryz.prog 171 #[.pointer (some ⟨h, 0, none⟩), .int .i64 (level : Int), .int .i64 (number : Int)] w fun e w' => e = .returned (treeV g) ∧ w' = w := by
  have c9 : w.cell? ⟨h, 9, none⟩ = some (.map (some m)) := hB.cell 9
  have hlook : (Instr.lookup 170 (.map (some m)) (.agg #[.int .i64 (level : Int), .int .i64 (number : Int)]) false).run Tryz.prog w = .ok (treeV g) w := by
    have h1 := hM.look keyT Tryz.underlying170 (.slice none 0 0) (by first | rfl | kernel_rfl) ((level : Int), (number : Int)) false
    rw [ha] at h1
    exact h1
  have hne := neq_tree g w
  clear hB hM ha
  go_enter Tryz.func171, Tryz.ntmps171
  go_wp2
  go_ret
  exact ⟨rfl, rfl⟩

set_option maxRecDepth 100000 in
set_option maxHeartbeats 4000000 in
theorem tree_new (s : Nm) (h m level number : Nat) (tl : List ((Int × Int) × Value)) (w : World) (hl : level ≤ 2) (hn : number < 32) (hB : Blk w h 172 (keyCells s m)) (hhm : h ≠ m) (hM : MapIs encT w m tl) (hT : TreesOk s w tl)
    (ha : alook ((level : Int), (number : Int)) tl = none) :
    Calls Tryz.prog 171 #[.pointer (some ⟨h, 0, none⟩), .int .i64 (level : Int), .int .i64 (number : Int)] w (TreePost s h m level number w) := by
  have c9 : w.cell? ⟨h, 9, none⟩ = some (.map (some m)) := hB.cell 9
  have hlook : (Instr.lookup 170 (.map (some m)) (.agg #[.int .i64 (level : Int), .int .i64 (number : Int)]) false).run Tryz.prog w = .ok (.slice none 0 0) w := by
    have h1 := hM.look keyT Tryz.underlying170 (.slice none 0 0) (by first | rfl | kernel_rfl) ((level : Int), (number : Int)) false
    rw [ha] at h1
    exact h1
  have hne := neq_nil w
  obtain ⟨Z, hZ⟩ : ∃ Z, Z = Array.replicate 256 (Value.int .u8 0) := ⟨_, rfl⟩
  have hmk : ∀ W : World, (Instr.makeSlice 22 (.int .i64 32) (.int .i64 32)).run Tryz.prog W = .ok (.slice (some ⟨W.heap.size, 0, none⟩) 32 32) (W.alloc (.cells Z 29)) := fun W => by rw [hZ]; kernel_rfl
  have HZ : Hid (Z.size = 8 * 32) := by rw [hZ]; exact Array.size_replicate
  have HB := Lib.hid hB
  have HM := Lib.hid hM
  have HT := Lib.hid hT
  have HHM := Lib.hid hhm
  clear hZ hB hM hT ha hhm
  go_enter Tryz.func171, Tryz.ntmps171
  go_upto_region 5 with fail
  clear hmk hlook hne c9
  have hN : NamesAt (w.alloc (Obj.cells Z 29)) w.heap.size 32 [] := NamesAt.zero w Z 32 HZ.out
  have hbW : Below w.heap.size w (w.alloc (Obj.cells Z 29)) := (Below.refl _ _).alloc (Nat.le_refl _) _
  generalize (w.alloc (Obj.cells Z 29)) = W at *
  clear HZ
  try go_frame
  go_wp2_with fail
  go_loopw [24] (fun i wr => ∃ k : Nat, k ≤ 32 ∧ i = .int .i64 k ∧ NamesAt wr w.heap.size 32 ((List.range k).map (leafAt s level number)) ∧ Below w.heap.size w wr)
    (fun i _ => 32 - (intOf i).toNat)
  case atStart => exact ⟨0, by omega, rfl, hN, hbW⟩
  case round =>
    clear hN hbW
    obtain ⟨k, hk, rfl, hN, hb⟩ := hrel
    by_cases hlt : k < 32
    · have e1 := mapRange_snoc (leafAt s level number) k
      have E1 := Lib.hid e1; clear e1
      have E2 : Hid (((List.range k).map (leafAt s level number)).length = k) := by show _ = _; simp
      generalize (List.range k).map (leafAt s level number) = nl at *
      obtain ⟨y, hy⟩ : ∃ y, leafAt s level number k = y := ⟨_, rfl⟩
      obtain ⟨x, hx⟩ : ∃ x, seedF s level number k = x := ⟨_, rfl⟩
      have e3 : opubF x = y := by rw [← hx, ← hy]; rfl
      have HS : Hid (Calls Tryz.prog 195 #[.pointer (some ⟨h, 0, none⟩), .int .i64 (level : Int), .int .i64 (number : Int), .int .i64 (k : Int)] wr (NmPost wr x)) := seedOf_any s x h m level number k wr (HB.out.below hb HB.out.lt) hl hn hlt hx
      have HW : Hid (∀ W, Calls Tryz.prog 196 #[x.val] W (NmPost W y)) := fun W => opublic_core x y W e3
      rw [hy] at E1
      clear hx hy e3
      go_wp2_with (first
        | (go_at_call 195; refine HS.out.mono ?_; rintro en w2 ⟨rfl, hb2⟩; have hN2 := hN.below hb2 hN.lt; have hbw2 := hb.trans (hb2.mono hb.size))
        | (go_at_call 196; refine (HW.out _).mono ?_; rintro en w3 ⟨rfl, hb3⟩; have hN3 := hN2.below hb3 hN2.lt; have hbw3 := hbw2.trans (hb3.mono hbw2.size))
        | (refine wpList_store_name rfl 29 (.tmp 35) (.tmp 34) rfl w.heap.size 32 k nl y rfl rfl hN3 E2.out hlt size_name ?_))
      intro w4 hN4 hg4 hs4
      have hbw4 : Below w.heap.size w w4 := hbw3.grown hg4 hbw3.size (by rintro j ⟨⟩; omega)
      clear hN hb hb2 hN2 hbw2 hb3 hN3 hbw3 hg4 hs4 HW HS
      go_wp2
      go_roundw
      case rel => exact ⟨k + 1, by omega, by go_num, by rw [E1.out]; exact hN4, hbw4⟩
      case measure => simp [intOf]; omega
    · obtain rfl : k = 32 := by omega
      have HM2 : Hid (MapIs encT wr m tl) := HM.out.below hb HM.out.lt
      have c9 : wr.cell? ⟨h, 9, none⟩ = some (.map (some m)) := (HB.out.below hb HB.out.lt).cell 9
      have hmlt := HM.out.lt
      have HN := Lib.hid hN
      clear hN
      go_wp2_with (refine wpList_mapT (enc := encT) rfl 170 22 (.tmp 40) (.tmp 43) (.tmp 44) rfl m ((level : Int), (number : Int)) (treeV w.heap.size) tl rfl rfl rfl HM2.out keyT Tryz.underlying170 ?_; intro w5 hM5 hg5 hs5)
      go_ret
      have hN5 : NamesAt w5 w.heap.size 32 (treeF s level number) := HN.out.kept hg5 (by simp; omega)
      have hgr : w.grownBy w5 (some m) := (below_grown hb).trans hg5
      refine ⟨w.heap.size, rfl, hN5, ⟨HB.out.kept hgr (by simpa using HHM.out), HHM.out, _, hM5, fun a v hav => ?_⟩, hgr⟩
      rw [alook_aput] at hav
      split at hav
      · rename_i hkk
        injection hav with hav
        exact ⟨level, number, w.heap.size, hkk, hav.symm, hN5⟩
      · obtain ⟨a1, b1, g, h1, h2, h3⟩ := HT.out a v hav
        refine ⟨a1, b1, g, h1, h2, h3.kept hgr ?_⟩
        intro e
        injection e with e
        subst e
        obtain ⟨cur, hC, _⟩ := h3
        obtain ⟨es, cl, h5, _⟩ := HM.out
        unfold Blk at hC
        rw [hC] at h5
        cases h5
theorem tree_any (s : Nm) (h m level number : Nat) (w : World) (hk : KeyAt s h m w) (hl : level ≤ 2) (hn : number < 32) :
    Calls Tryz.prog 171 #[.pointer (some ⟨h, 0, none⟩), .int .i64 (level : Int), .int .i64 (number : Int)] w (TreePost s h m level number w) := by
  obtain ⟨hB, hhm, tl, hM, hT⟩ := hk
  cases ha : alook ((level : Int), (number : Int)) tl with
  | none => exact tree_new s h m level number tl w hl hn hB hhm hM hT ha
  | some v =>
    obtain ⟨a, b, g, h1, rfl, h3⟩ := hT _ _ ha
    have e1 : level = a := by have := congrArg Prod.fst h1; simp at this; omega
    have e2 : number = b := by have := congrArg Prod.snd h1; simp at this; omega
    subst e1; subst e2
    refine (tree_old s h m level number g tl w hB hM ha).mono ?_
    rintro e w' ⟨rfl, rfl⟩
    exact ⟨g, rfl, h3, ⟨hB, hhm, tl, hM, hT⟩, one_refl _ _⟩

end Go.Proofs.YthmecidpjlaonaaGreat
namespace Go.Proofs.YthmecidpjlaonaaGreat
open Go.RowKit
attribute [local go_sem ↓] Go.wp_at_zero Go.wp_at_succ loadNm
attribute [local go_sem] runNm pickRow_some rowAt_drew rowAt_drewN

/-- Below base nothing but block m has turned. -/
structure KFr (base m : Nat) (w w' : World) : Prop where
  os : w'.os = w.os
  tape : w'.tape = w.tape
  output : w'.output = w.output
  size : w.heap.size ≤ w'.heap.size
  block : ∀ i, i < base → i ≠ m → w'.heap[i]? = w.heap[i]?
theorem KFr.refl (base m : Nat) (w : World) : KFr base m w w := ⟨rfl, rfl, rfl, Nat.le_refl _, fun _ _ _ => rfl⟩
theorem KFr.trans {base m : Nat} {w w1 w2 : World} (h : KFr base m w w1) (h' : KFr base m w1 w2) : KFr base m w w2 :=
  ⟨h'.os.trans h.os, h'.tape.trans h.tape, h'.output.trans h.output, Nat.le_trans h.size h'.size, fun i hi hm => (h'.block i hi hm).trans (h.block i hi hm)⟩
theorem KFr.grown {base m : Nat} {w w' : World} (h : w.grownBy w' (some m)) (hb : base ≤ w.heap.size) : KFr base m w w' :=
  ⟨h.os, h.tape, h.output, h.size, fun i hi hm => h.block i (Nat.lt_of_lt_of_le hi hb) (by simpa using hm)⟩
theorem KFr.below {base m B' : Nat} {w w' : World} (h : Below B' w w') (hb : base ≤ B') : KFr base m w w' :=
  ⟨h.os, h.tape, h.output, h.size, fun i hi _ => h.block i (Nat.lt_of_lt_of_le hi hb)⟩
theorem KFr.own {base m e size n : Nat} {w w' : World} {v : Value} {xs : List Value} (h : w.ownsRow base e size v n xs) (hg : w.grownBy w' v.ownBlock) (hb : base ≤ w.heap.size) : KFr base m w w' :=
  ⟨hg.os, hg.tape, hg.output, hg.size, fun i hi _ => hg.block i (Nat.lt_of_lt_of_le hi hb) (fun e => by have := (h.lt _ e.symm).1; omega)⟩
theorem KFr.all {m : Nat} {w w' : World} (h : KFr w.heap.size m w w') : w.grownBy w' (some m) :=
  ⟨h.os, h.tape, h.output, h.size, fun i hi hm => h.block i hi (fun e => hm (by rw [e]))⟩
/-- A row of the call's own is no map. -/
theorem own_map {s : Nm} {h m base e size n : Nat} {w : World} {v : Value} {xs : List Value} (hk : KeyAt s h m w) (ho : w.ownsRow base e size v n xs) : v.ownBlock ≠ some m := by
  rcases ho.2 with ⟨rfl, _⟩ | ⟨g, cap, cur, rfl, _, hh, _⟩
  · intro e; cases e
  · intro he
    have he' : g = m := by simpa [Value.ownBlock] using he
    subst he'
    obtain ⟨_, _, tl, ⟨es, c, h5, _⟩, _⟩ := hk
    rw [hh] at h5
    cases h5
def SigdPost (s : Nm) (h m base n : Nat) (xs : List Value) (p : List UInt8) (w : World) (e : Ending) (w' : World) : Prop :=
  ∃ A c, e = .returned (.slice A (n + 184) c) ∧ w'.ownsRow base 5 1 (.slice A (n + 184) c) (n + 184) (xs ++ p.map B) ∧ KeyAt s h m w' ∧ KFr base m w w'

set_option maxRecDepth 100000 in
set_option maxHeartbeats 4000000 in
theorem ksigned_any (s nm : Nm) (h m level number j base n c0 : Nat) (A0 : Option Addr) (xs : List Value) (w : World) (hk : KeyAt s h m w) (hown : w.ownsRow base 5 1 (.slice A0 n c0) n xs) (hbase : base ≤ w.heap.size) (hl : level ≤ 2) (hn : number < 32) (hj : j < 32) (hn0 : n ≤ 1000) :
    Calls Tryz.prog 169 #[.pointer (some ⟨h, 0, none⟩), .slice A0 n c0, .int .i64 (level : Int), .int .i64 (number : Int), .int .i64 (j : Int), nm.val] w (SigdPost s h m base n xs (partF s level number j nm) w) := by
  obtain ⟨i0, hi, hz0, hz1, hz2⟩ := info_parts info_name
  obtain ⟨W, hW⟩ : ∃ W, W = w.alloc (Obj.cells nm.cells 29) := ⟨_, rfl⟩
  have hbW : Below w.heap.size w W := by rw [hW]; exact (Below.refl _ _).alloc (Nat.le_refl _) _
  have hkW := hk.below hbW
  have hX : Blk W w.heap.size 29 nm.cells := by rw [hW]; exact Blk.new w _ _
  have hownW := own_below hown hbW (Nat.le_refl _)
  have HT := Lib.hid (tree_any s h m level number W hkW hl hn)
  have HOM := Lib.hid (own_map hkW hownW)
  have hml : m < w.heap.size := by obtain ⟨_, _, tl, hM, _⟩ := hk; exact hM.lt
  have hne : w.heap.size ≠ m := by omega
  have HPa : Hid (∀ V g, NamesAt V g 32 (treeF s level number) → Calls Tryz.prog 193 #[treeV g, .int .i64 (j : Int)] V (PathPost V 5 (pathF 5 j (treeF s level number)))) := fun V g hN => path_any j _ g 0 32 V (treeF_len _ _ _) (by omega) (by unfold maxLen; omega) hj hN.rd
  obtain ⟨x, hx⟩ : ∃ x, seedF s level number j = x := ⟨_, rfl⟩
  have HSd : Hid (∀ V, KeyAt s h m V → Calls Tryz.prog 195 #[.pointer (some ⟨h, 0, none⟩), .int .i64 (level : Int), .int .i64 (number : Int), .int .i64 (j : Int)] V (NmPost V x)) := fun V hV => seedOf_any s x h m level number j V hV.1 hl hn hj hx
  obtain ⟨os, hos⟩ : ∃ os, os = osignF x nm := ⟨_, rfl⟩
  have HOs : Hid (∀ V, Calls Tryz.prog 194 #[x.val, nm.val] V (NamesPost V 18 os)) := fun V => by rw [hos]; exact osign_any x nm V
  have HOl : Hid (os.length = 18) := by rw [hos]; exact osignF_len x nm
  obtain ⟨pa, hpa⟩ : ∃ pa, pa = pathF 5 j (treeF s level number) := ⟨_, rfl⟩
  have HPl : Hid (pa.length = 5) := by rw [hpa]; exact pathF_len 5 j _
  rw [← hpa] at HPa
  have hpart : partF s level number j nm = (os ++ pa).flatMap Nm.bytes := by rw [partF, hx, hos, hpa]
  obtain ⟨nl, hnl⟩ : ∃ nl, nl = os ++ pa := ⟨_, rfl⟩
  rw [hpart, ← hnl]
  have HNq := Lib.hid hnl
  clear hpart hpa hos hx hk hown hkW hnl
  obtain ⟨q, hq⟩ : ∃ q, q = w.heap.size := ⟨_, rfl⟩
  rw [← hq] at hX hne
  have hKF : KFr base m w W := KFr.below hbW hbase
  have hbq : base ≤ q := by omega
  have hbWs : base ≤ W.heap.size := Nat.le_trans hbase hbW.size
  go_enter Tryz.func169, Tryz.ntmps169
  go_upto_region 1 with fail
  rw [← hW, ← hq]
  clear hW hq hbase hbW
  go_upto_region 2 with (first
    | (go_at_call 171; refine HT.out.mono ?_; rintro en w3 ⟨g, rfl, hN3, hk3, hg3⟩; have hX3 := hX.kept hg3 (by simpa using hne); have hown3 := hownW.kept hg3 (.inr HOM.out); have hF3 := hKF.trans (KFr.grown hg3 hbWs))
    | (go_at_call 193; refine (HPa.out _ _ hN3).mono ?_; rintro en w4 ⟨A4, c4, rfl, hownP, hb4⟩; have hX4 := hX3.below hb4 hX3.lt; have hown4 := own_below hown3 hb4 (Nat.le_refl _); have hk4 := hk3.below hb4; have hF4 := hF3.trans (KFr.below hb4 (Nat.le_trans hbWs hg3.size))))
  have hs4 : base ≤ w4.heap.size := Nat.le_trans hbWs (Nat.le_trans hg3.size hb4.size)
  clear hN3 hk3 hg3 hX3 hown3 hF3 hb4 hownW hX hKF HT HPa hml hbWs
  try go_frame
  have HP4 : Hid (Rd w4 w4.heap.size A4 (pa.flatMap nmc)) := Rd.of_own hownP
  clear hownP
  obtain ⟨b4, o4, rfl, _⟩ := rd_addr HP4.out (by rw [HPl.out]; omega)
  have x4 : rowAt w4 q 0 8 = some nm.cells := hX4.row 8 rfl
  have HX4 := Lib.hid hX4
  have HK4 := Lib.hid hk4
  have HO4 := Lib.hid hown4
  clear hX4 hk4 hown4
  have hb0 : Below w4.heap.size w4 w4 := Below.refl _ _
  refine wp_region_noPanic ?_
  refine wp_region_held_drew (S := fun w' => rowAt w' q 0 8 = some nm.cells) (by kernel_rfl) (x4) (fun hHeld => ?_)
  refine wpAnyH_takeD (some 26) (i := 0) (v := ?vh1_0) rfl rfl (by kernel_rfl) (by kernel_rfl) (by kernel_rfl) (fun _ _ _ h => h) (by rfl) ?hh1_0 (by assumption) ?_
  case hh1_0 => (intro wq hSw; (try dsimp only at hSw); go_simp; (try (with_reducible rfl)))
  go_frame
  refine wpAnyH_takeD (some 27) (i := 1) (v := ?vh1_1) rfl rfl (by kernel_rfl) (by kernel_rfl) (by kernel_rfl) (fun _ _ _ h => h) (by rfl) ?hh1_1 (by assumption) ?_
  case hh1_1 => (intro wq hSw; (try dsimp only at hSw); go_simp; (try (with_reducible rfl)))
  go_frame
  refine wpAnyH_takeD (some 28) (i := 2) (v := ?vh1_2) rfl rfl (by kernel_rfl) (by kernel_rfl) (by kernel_rfl) (fun _ _ _ h => h) (by rfl) ?hh1_2 (by assumption) ?_
  case hh1_2 => (intro wq hSw; (try dsimp only at hSw); go_simp; (try (with_reducible rfl)))
  go_frame
  refine wpAnyH_takeD (some 29) (i := 3) (v := ?vh1_3) rfl rfl (by kernel_rfl) (by kernel_rfl) (by kernel_rfl) (fun _ _ _ h => h) (by rfl) ?hh1_3 (by assumption) ?_
  case hh1_3 => (intro wq hSw; (try dsimp only at hSw); go_simp; (try (with_reducible rfl)))
  go_frame
  refine wpAnyH_takeD (some 31) (i := 5) (v := ?vh1_5) rfl rfl (by kernel_rfl) (by kernel_rfl) (by kernel_rfl) (fun _ _ _ h => h) (by rfl) ?hh1_5 (by assumption) ?_
  case hh1_5 => (intro wq hSw; (try dsimp only at hSw); go_simp; (try (with_reducible rfl)))
  go_frame
  refine wpAnyH_takeD (some 33) (i := 7) (v := ?vh1_7) rfl rfl (by kernel_rfl) (by kernel_rfl) (by kernel_rfl) (fun _ _ _ h => h) (by rfl) ?hh1_7 (by assumption) ?_
  case hh1_7 => (intro wq hSw; (try dsimp only at hSw); go_simp; (try (with_reducible rfl)))
  go_frame
  refine wpAnyH_takeD (some 36) (i := 10) (v := ?vh1_10) rfl rfl (by kernel_rfl) (by kernel_rfl) (by kernel_rfl) (fun _ _ _ h => h) (by rfl) ?hh1_10 (by assumption) ?_
  case hh1_10 => (intro wq hSw; (try dsimp only at hSw); go_simp; (try (with_reducible rfl)))
  go_frame
  refine wpAnyH_ready (rs := [4]) (by kernel_rfl) (by simp) ?_
  refine AllReadyH.cons rfl (fun K hK => ?_) AllReadyH.nil
  go_simp
  refine (HSd.out _ HK4.out.drew).mono ?_; rintro en w5 ⟨rfl, hb5⟩; have hbx5 := hb0.drew.trans (hb5.mono (Nat.le_refl _))
  go_wp2_with fail
  refine hK.out _ _ (rowAt_below x4 hbx5 HX4.out.lt) (fun hHeld => ?_)
  clear hK K
  try go_frame
  refine wpAnyH_ready (rs := [6]) (by kernel_rfl) (by simp) ?_
  refine AllReadyH.cons rfl (fun K hK => ?_) AllReadyH.nil
  go_simp
  refine (HOs.out _).mono ?_; rintro en w6 ⟨g6, rfl, hN6, hb6⟩; have hbx6 := hbx5.trans (hb6.mono hbx5.size)
  go_wp2_with fail
  refine hK.out _ _ (rowAt_below x4 hbx6 HX4.out.lt) (fun hHeld => ?_)
  clear hK K
  try go_frame
  refine wpAnyH_ready (rs := [8]) (by kernel_rfl) (by simp) ?_
  refine AllReadyH.cons rfl (fun K hK => ?_) AllReadyH.nil
  rw [if_pos (by rfl)]
  refine wp_app_grows _ (some 34) rfl (.tmp 32) (.tmp 33) _ (by rfl) 29 i0 (Nm.val ⟨0, 0, 0, 0, 0, 0, 0, 0⟩) 8 8 Tryz.underlying22 hi hz0 hz1 hz2 rfl (by decide) (some ⟨g6, 0, none⟩) 18 18 (os.flatMap nmc) (by rfl) (fun e => by cases e) (by rw [flat_length nmc 8 os (nmc_len os), HOl.out]) ?ah ⟨b4, o4, none⟩ 5 c4 (pa.flatMap nmc) (by rfl) (by rw [flat_length nmc 8 pa (nmc_len pa), HPl.out]) ?ac (fun u hu => names_one hu) (by omega) (by unfold maxLen; omega) (by omega) ?_
  case ah =>
    intro p hp j u hu
    injection hp with hp; subst hp
    rcases (hN6).rd with h0 | ⟨b', o', e, _, hc⟩
    · rw [h0] at hu; simp at hu
    · injection e with e; injection e with e1 e2; subst e1; subst e2
      rw [Addr.add_mid]
      exact hc j u hu
  case ac =>
    intro j u hu
    rcases HP4.out.below hbx6 with h0 | ⟨b', o', e, _, hc⟩
    · rw [h0] at hu; simp at hu
    · injection e with e; injection e with e1 e2; subst e1; subst e2
      rw [Addr.add_mid]
      exact hc j u hu
  intro v7 w7 hown7 hg7
  obtain ⟨A7, c7, hv7⟩ := own_form hown7
  subst hv7
  have hbx7 : Below w4.heap.size w4 w7 := below_none hbx6 hg7
  refine hK.out _ _ (rowAt_below x4 hbx7 HX4.out.lt) (fun hHeld => ?_)
  clear hK K
  try go_frame
  refine wpAnyH_takeD (some 35) (i := 9) (v := ?vh1_9) rfl rfl (by kernel_rfl) (by kernel_rfl) (by kernel_rfl) (fun _ _ _ h => h) (by rfl) ?hh1_9 (by assumption) ?_
  case hh1_9 => (intro wq hSw; (try dsimp only at hSw); go_simp; (try (with_reducible rfl)))
  go_frame
  refine wpAnyH_done (by kernel_rfl) ?_ _
  refine NoPanic.normal ?_
  have HK7 := Lib.hid (HK4.out.below hbx7)
  have hown0 := own_below HO4.out hbx7 (Nat.le_refl _)
  have hF7 := hF4.trans (KFr.below (m := m) hbx7 hs4)
  have hs7 : base ≤ w7.heap.size := Nat.le_trans hs4 hbx7.size
  rw [← List.flatMap_append, ← HNq.out] at hown7
  have HNl : Hid (nl.length = 23) := by show nl.length = 23; rw [HNq.out, List.length_append, HOl.out, HPl.out]
  obtain ⟨b7, o7, rfl, hb7lt⟩ := rd_addr (Rd.of_own hown7) (by rw [HNl.out]; omega)
  obtain ⟨cur, hcur⟩ := own_blk hown7
  have HCu : Hid (∀ k x, nl[k]? = some x → ∀ V, Blk V b7 29 cur → rowAt V b7 (o7 + k * 8) 8 = some x.cells) := fun k x hkx V hV => by
    refine rowAt_of (fun j u hu => ?_) rfl
    have h1 := Rd.name (Rd.of_own hown7) hkx
    obtain ⟨b', o', e, _, hc⟩ := h1
    injection e with e; injection e with e1 e2; subst e1; subst e2
    have h2 := hc j u (by simpa using hu)
    rw [hcur.cell] at h2
    rw [hV.cell]; exact h2
  clear HNq hown7 hg7 hN6 hbx7 hbx6 hbx5 hb5 hb6 hHeld x4 HX4 HK4 HO4 HSd HOs HP4 hF4 hs4 hb0 HOl HPl
  try go_frame
  go_wp2_with fail
  go_loopw [1, 36] (fun v i wr => ∃ k : Nat, k ≤ 23 ∧ i = .int .i64 k ∧ wr.ownsRow base 5 1 v (n + 8 * k) (xs ++ ((nl.take k).flatMap Nm.bytes).map B) ∧ Blk wr b7 29 cur ∧ KeyAt s h m wr ∧ KFr base m w wr ∧ base ≤ wr.heap.size)
    (fun _ i _ => 23 - (intOf i).toNat)
  case atStart => exact ⟨0, by omega, rfl, by simpa using hown0, hcur, HK7.out, hF7, hs7⟩
  case round =>
    clear hown0 hcur hF7 hs7 HK7
    obtain ⟨k, hk, rfl, hown, hC, hkk, hF, hs⟩ := hrel
    by_cases hlt : k < 23
    · obtain ⟨y, hy⟩ : ∃ y, nl[k]? = some y := ⟨_, List.getElem?_eq_getElem (by rw [HNl.out]; exact hlt)⟩
      have e1 := fb_snoc nl k y hy
      have E1 := Lib.hid e1; clear e1
      have xk : rowAt wr b7 (o7 + k * 8) 8 = some y.cells := HCu.out k y hy wr hC
      have ltC := hC.lt
      have HKk := Lib.hid hkk
      clear hkk hy
      generalize List.flatMap Nm.bytes (nl.take k) = bs at *
      have i1 : (0 : Int) ≤ (k : Int) := by omega
      have i2 : (k : Int) < 23 := by omega
      go_wp2_with (refine wpList_store_blk rfl 29 (.tmp 16) (.tmp 39) rfl wr.heap.size _ rfl rfl 29 _ (Blk.new wr _ _) rfl size_name (fun u hu => one_nm y hu) ?_)
      intro w2 hV2 hg2 hs2
      have hown2 := (hown.alloc _).kept hg2 (own_new hown)
      have hC2 := (hC.alloc _).kept hg2 (by simp; omega)
      have hb2 : Below wr.heap.size wr w2 := ((Below.refl _ _).alloc (Nat.le_refl _) _).grown hg2 (by simp) (by rintro j ⟨⟩; exact Nat.le_refl _)
      have HK2 := Lib.hid (HKk.out.below hb2)
      have hF2 := hF.trans (KFr.below (m := m) hb2 hs)
      have hs2' : base ≤ w2.heap.size := Nat.le_trans hs hb2.size
      clear hown hC xk hb2 hF hs hg2 hs2 HKk
      go_wp2_with (at_builtin; refine wpList_app rfl (.tmp 40) (.tmp 41) _ rfl base 5 (.int .u8 0) 1 1 Tryz.underlying32 info_byte rfl (by decide) _ (n + 8 * k) _ rfl hown2 w2.heap.size _ 8 8 (y.bytes.map B) rfl rfl ?r1 ?r2 ?r3 ?r4 ?r5 ?_)
      case r1 =>
        have h := Rd.of_blk hV2 0 8
        simpa [Nm.bytes] using h
      case r2 => exact fun u hu => bytes_one hu
      case r3 => omega
      case r4 => unfold maxLen; omega
      case r5 => exact hs2'
      intro v3 w3 hown3 hg3 hat3
      have hC3 := hC2.kept hg3 (own_ne hown2 hC2 (by decide))
      have HK3 := Lib.hid (HK2.out.own hown2 hg3)
      have hF3 := hF2.trans (KFr.own (m := m) hown2 hg3 hs2')
      have hs3 : base ≤ w3.heap.size := Nat.le_trans hs2' hg3.size
      clear hown2 hC2 hV2 hg3 hat3 HK2 hF2 hs2'
      go_wp2
      go_roundw
      case rel => exact ⟨_, _, _, _, _, _, _, _, _, _, ⟨k + 1, by omega, by go_num, by rw [E1.out, List.map_append, show n + 8 * (k + 1) = n + 8 * k + 8 from by omega]; exact hown3, hC3, HK3.out, hF3, hs3⟩, rfl⟩
      case measure => simp [intOf]; omega
    · obtain rfl : k = 23 := by omega
      rw [List.take_of_length_le (by rw [HNl.out]; omega)] at hown
      obtain ⟨A8, c8, rfl⟩ := own_form hown
      go_wp2
      go_ret
      exact ⟨A8, c8, rfl, hown, hkk, hF⟩
end Go.Proofs.YthmecidpjlaonaaGreat
namespace Go.Proofs.YthmecidpjlaonaaGreat
open Go.RowKit
attribute [local go_sem ↓] Go.wp_at_zero Go.wp_at_succ loadNm
attribute [local go_sem] runNm pickRow_some rowAt_drew rowAt_drewN

/-- The key returned a signature, and is as it was but for its map. -/
def KSgPost (s : Nm) (h m leaf : Nat) (nm : Nm) (w : World) (e : Ending) (w' : World) : Prop :=
  ∃ A c, e = .returned (.tuple #[.slice A 370 c, .bool true]) ∧ w'.ownsRow w.heap.size 5 1 (.slice A 370 c) 370 ((sigF s leaf nm).map B) ∧ KeyAt s h m w' ∧ w.grownBy w' (some m)
theorem map_base {s : Nm} {h m : Nat} {w : World} (hk : KeyAt s h m w) : m < w.heap.size := by obtain ⟨_, _, tl, hM, _⟩ := hk; exact hM.lt

set_option maxRecDepth 100000 in
set_option maxHeartbeats 4000000 in
theorem ksign_yes (s nm : Nm) (h m leaf : Nat) (w : World) (hk : KeyAt s h m w) (hlf : leaf < 1024) :
    Calls Tryz.prog 138 #[.pointer (some ⟨h, 0, none⟩), .int .i64 (leaf : Int), nm.val] w (KSgPost s h m leaf nm w) := by
  obtain ⟨W, hW⟩ : ∃ W, W = w.alloc (Obj.cells nm.cells 29) := ⟨_, rfl⟩
  have hbW : Below w.heap.size w W := by rw [hW]; exact (Below.refl _ _).alloc (Nat.le_refl _) _
  have hkW := hk.below hbW
  have hX : Blk W w.heap.size 29 nm.cells := by rw [hW]; exact Blk.new w _ _
  have c8 : W.cell? ⟨h, 8, none⟩ = some (I 2) := hkW.1.cell 8
  have HRdy := Lib.hid (ready_any s h m W hkW.1)
  obtain ⟨b0, hb0⟩ : ∃ b, b = byteAt leaf 1 := ⟨_, rfl⟩
  obtain ⟨b1, hb1⟩ : ∃ b, b = byteAt leaf 0 := ⟨_, rfl⟩
  have HA : Hid (Calls Tryz.prog 71 #[.slice none 0 0, .int .u64 (leaf : Int), .int .i64 2] W (RowPost W 5 1 2 ([b0, b1].map B))) := by
    have h := app2_any none 0 0 leaf [] W rfl Rd.nil (fun u hu => by cases hu) (by omega)
    rw [hb0, hb1]; exact h
  obtain ⟨rt, hrt⟩ : ∃ r, r = rootF 5 (treeF s 1 (leaf / 32)) := ⟨_, rfl⟩
  obtain ⟨p1, hp1⟩ : ∃ p, p = partF s 1 (leaf / 32) (leaf % 32) nm := ⟨_, rfl⟩
  obtain ⟨p2, hp2⟩ : ∃ p, p = partF s 2 0 (leaf / 32) rt := ⟨_, rfl⟩
  have hsig : sigF s leaf nm = [b0, b1] ++ p1 ++ p2 := by
    rw [sigF, hp2, hrt, hp1, hb0, hb1]
    simp only [byteAt, Nat.pow_one, Nat.pow_zero, Nat.div_one]
  obtain ⟨sg, hsg⟩ : ∃ sg, sg = sigF s leaf nm := ⟨_, rfl⟩
  have HSg : Hid (sg = [b0, b1] ++ p1 ++ p2) := by unfold Hid; rw [hsg, hsig]
  have H1 : Hid (∀ A c V, KeyAt s h m V → V.ownsRow w.heap.size 5 1 (.slice A 2 c) 2 ([b0, b1].map B) → w.heap.size ≤ V.heap.size → Calls Tryz.prog 169 #[.pointer (some ⟨h, 0, none⟩), .slice A 2 c, .int .i64 1, .int .i64 ((leaf : Int) / 32), .int .i64 ((leaf : Int) % 32), nm.val] V (SigdPost s h m w.heap.size 2 ([b0, b1].map B) p1 V)) := fun A c V hV ho hs => by
    rw [hp1]
    exact ksigned_any s nm h m 1 (leaf / 32) (leaf % 32) w.heap.size 2 c A _ V hV ho hs (by omega) (by omega) (Nat.mod_lt _ (by omega)) (by omega)
  have H2 : Hid (∀ A c V, KeyAt s h m V → V.ownsRow w.heap.size 5 1 (.slice A 186 c) 186 ([b0, b1].map B ++ p1.map B) → w.heap.size ≤ V.heap.size → Calls Tryz.prog 169 #[.pointer (some ⟨h, 0, none⟩), .slice A 186 c, .int .i64 2, .int .i64 0, .int .i64 ((leaf : Int) / 32), rt.val] V (SigdPost s h m w.heap.size 186 ([b0, b1].map B ++ p1.map B) p2 V)) := fun A c V hV ho hs => by
    rw [hp2]
    exact ksigned_any s rt h m 2 0 (leaf / 32) w.heap.size 186 c A _ V hV ho hs (by omega) (by omega) (by omega) (by omega)
  have HTr : Hid (∀ V, KeyAt s h m V → Calls Tryz.prog 171 #[.pointer (some ⟨h, 0, none⟩), .int .i64 1, .int .i64 ((leaf : Int) / 32)] V (TreePost s h m 1 (leaf / 32) V)) := fun V hV => tree_any s h m 1 (leaf / 32) V hV (by omega) (by omega)
  have HRt : Hid (∀ V g, NamesAt V g 32 (treeF s 1 (leaf / 32)) → Calls Tryz.prog 170 #[treeV g] V (NmPost V rt)) := fun V g hN => by
    rw [hrt]
    exact mroot_any 5 (treeF s 1 (leaf / 32)) _ 32 32 V (treeF_len _ _ _) rfl (by omega) (by omega) (by unfold maxLen; omega) hN.rd
  have d0 : decide ((leaf : Int) < 0) = false := by simp
  have d1 : decide ((1024 : Int) ≤ (leaf : Int)) = false := by simp; omega
  have hml := map_base hk
  have HK := Lib.hid hkW
  have HBW := Lib.hid hbW
  have HX := Lib.hid hX
  unfold KSgPost
  rw [← hsg]
  clear hsig hsg hp1 hp2 hrt hb0 hb1 hk hkW hbW hX
  obtain ⟨q, hq⟩ : ∃ q, q = w.heap.size := ⟨_, rfl⟩
  rw [← hq] at HX
  have HQ : Hid (q = w.heap.size) := hq
  go_enter Tryz.func138, Tryz.ntmps138
  go_upto_region 1 with fail
  rw [← hW, ← hq]
  clear hW hq
  go_upto_region 3 with (first
    | (go_at_call 168; refine HRdy.out.mono ?_; rintro en w2 ⟨rfl, hw2⟩; subst hw2)
    | (go_at_call 93; refine (cap2_any _).mono ?_; rintro en w3 ⟨rfl, hw3⟩; subst hw3))
  try go_frame
  go_upto_region 4 with (go_at_call 71; refine HA.out.mono ?_; rintro en w4 ⟨A4, c4, rfl, hown4, hb4⟩)
  have x4 : rowAt w4 q 0 8 = some nm.cells := (HX.out.below hb4 HX.out.lt).row 8 rfl
  have HK4 := Lib.hid (HK.out.below hb4)
  have HO4 := Lib.hid (own_base hown4 HBW.out.size)
  have HB4 := Lib.hid (HBW.out.trans (hb4.mono HBW.out.size))
  clear hown4 hb4 HX HA HRdy HK
  try go_frame
  go_upto_region 5 with (go_at_call 169; refine (H1.out _ _ _ HK4.out HO4.out HB4.out.size).mono ?_; rintro en w5 ⟨A5, c5, rfl, hown5, hk5, hf5⟩)
  have c85 : w5.cell? ⟨h, 8, none⟩ = some (I 2) := hk5.1.cell 8
  have HK5 := Lib.hid hk5
  have HO5 := Lib.hid hown5
  have HF5 := Lib.hid ((KFr.below (m := m) HB4.out (Nat.le_refl _)).trans hf5)
  clear hown5 hk5 hf5 x4 HK4 HO4 HB4 H1
  try go_frame
  go_upto_region 7 with (first
    | (go_at_call 171; refine (HTr.out _ HK5.out).mono ?_; rintro en w6 ⟨g, rfl, hN6, hk6, hg6⟩)
    | (go_at_call 170; refine (HRt.out _ _ hN6).mono ?_; rintro en w7 ⟨rfl, hb7⟩; have hk7 := hk6.below hb7; have hown7 := own_below (HO5.out.kept hg6 (.inr (own_map HK5.out HO5.out))) hb7 (Nat.le_refl _); have hs5 := HF5.out.size; have hF7 := HF5.out.trans ((KFr.grown hg6 hs5).trans (KFr.below (m := m) hb7 (Nat.le_trans hs5 hg6.size))))
    | (go_at_call 169; refine (H2.out _ _ _ hk7 hown7 hF7.size).mono ?_; rintro en w8 ⟨A8, c8, rfl, hown8, hk8, hf8⟩))
  try go_frame
  go_wp2
  go_ret2
  rw [HQ.out]
  exact ⟨A8, c8, rfl, by rw [HSg.out, List.map_append, List.map_append]; exact hown8, hk8, (hF7.trans hf8).all⟩

/-- A new key is a key. -/
theorem KeyPost.at {s : Nm} {w w' : World} {e : Ending} (h : KeyPost w s e w') : ∃ hp m, e = .returned (.pointer (some ⟨hp, 0, none⟩)) ∧ w.heap.size ≤ m ∧ KeyAt s hp m w' ∧ Below w.heap.size w w' := by
  obtain ⟨hp, m, rfl, _, hm, hne, hB, hM, hb⟩ := h
  exact ⟨hp, m, rfl, hm, ⟨hB, hne, [], ⟨#[], 0, hM, rfl⟩, fun k v hk => by cases hk⟩, hb⟩
end Go.Proofs.YthmecidpjlaonaaGreat
