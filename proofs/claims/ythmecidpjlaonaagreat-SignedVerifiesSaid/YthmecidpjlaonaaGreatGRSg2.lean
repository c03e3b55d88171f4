/-
  The reference's NewKey, its key's Sign, Sign and Public return a signature (sigF) and a key's public name (keyF). Condition: the leaf is below the capacity.
  The references' Sign of names at two levels, Public, and Sign of votes: a vote with the signature of a leaf (sigF), or a refusal. Condition: none but that the numbers are int64's.
-/
import Derived.Test.YthmecidpjlaonaaGreatGRSgn
import Derived.Test.YthmecidpjlaonaaGreatGSgn2
import Derived.Great.Walk
import Derived.Test.YthmecidpjlaonaaGreatGSgn3
namespace Go.Proofs.YthmecidpjlaonaaGreat
open Go.RowKit
attribute [local go_sem ↓] Go.wp_at_zero Go.wp_at_succ loadNm
attribute [local go_sem] runNm pickRow_some rowAt_drew rowAt_drewN

abbrev nilV : Value := .slice none 0 0
/-- The cells of a key of the reference: seed, top, the trees of the bottom. -/
abbrev rkC (s : Nm) (top : Value) : Array Value := #[B s.b0, B s.b1, B s.b2, B s.b3, B s.b4, B s.b5, B s.b6, B s.b7, top, nilV, nilV, nilV, nilV, nilV, nilV, nilV, nilV, nilV, nilV, nilV, nilV, nilV, nilV, nilV, nilV, nilV, nilV, nilV, nilV, nilV, nilV, nilV, nilV, nilV, nilV, nilV, nilV, nilV, nilV, nilV, nilV]
set_option maxRecDepth 100000 in
theorem run_buildRK {o : Oper} {a : Act} (s : Nm) (top : Value) (x y : Operand) (ho : o.op = .build 162 #[(0, x), (1, y)]) (hx : a.eval x = .agg s.cells) (hy : a.eval y = top) (ht : ∃ A n c, top = .slice A n c) (w : World) :
    (execOp a.eval o).run Tryz.prog w = .ok (.value (.agg (rkC s top))) w := by
  obtain ⟨A, n, c, rfl⟩ := ht
  unfold execOp
  rw [ho]
  simp only [List.map_toArray, List.map_cons, List.map_nil, hx, hy]
  go_simp

/-- A new key: its block, its top tree. -/
def RKeyPost (w : World) (s : Nm) (e : Ending) (w' : World) : Prop :=
  ∃ h b o c, e = .returned (.pointer (some ⟨h, 0, none⟩)) ∧ w.heap.size ≤ h ∧ h + 1 = w'.heap.size ∧ Blk w' h 162 (rkC s (.slice (some ⟨b, o, none⟩) 32 c)) ∧ w'.ownsRow w.heap.size 29 8 (.slice (some ⟨b, o, none⟩) 32 c) 32 ((treeF s 2 0).flatMap nmc) ∧ Below w.heap.size w w'
set_option maxRecDepth 100000 in
set_option maxHeartbeats 4000000 in
theorem rnewKey_any (s : Nm) (w : World) : Calls Tryz.prog 79 #[s.val] w (RKeyPost w s) := by
  obtain ⟨W, hW⟩ : ∃ W, W = w.alloc (.cells s.cells 29) := ⟨_, rfl⟩
  have hbW : Below w.heap.size w W := by rw [hW]; exact (Below.refl _ _).alloc (Nat.le_refl _) _
  have hB : Blk W w.heap.size 29 s.cells := by rw [hW]; exact Blk.new w _ _
  have HR : Hid (∀ V, Below W.heap.size W V → rowAt V w.heap.size 0 8 = some s.cells) := fun V hV => (hB.below hV hB.lt).row 8 rfl
  have HL := Lib.hid (fun V => rleaves_any s 2 0 V (by omega) (by omega))
  obtain ⟨tr, htr⟩ : ∃ tr, tr = treeF s 2 0 := ⟨_, rfl⟩
  have HTl : Hid (tr.length = 32) := by unfold Hid; rw [htr]; exact treeF_len _ _ _
  unfold RKeyPost
  rw [← htr] at HL ⊢
  clear htr hB
  obtain ⟨q, hq⟩ : ∃ q, q = w.heap.size := ⟨_, rfl⟩
  have HQ : Hid (q = w.heap.size) := hq
  rw [← hq] at HR
  have hb0 : Below W.heap.size W W := Below.refl _ _
  go_enter Tryz.func79, Tryz.ntmps79
  go_upto_region 1 with fail
  rw [← hW, ← hq]
  clear hW hq
  refine wp_region_noPanic ?_
  refine wp_region_held_drew (S := fun w' => rowAt w' q 0 8 = some s.cells) (by kernel_rfl) (HR.out _ hb0.drew) (fun hHeld => ?_)
  refine wpAnyH_takeD (some 3) (i := 0) (v := ?vh1_0) rfl rfl (by kernel_rfl) (by kernel_rfl) (by kernel_rfl) (fun _ _ _ h => h) (by rfl) ?hh1_0 (by assumption) ?_
  case hh1_0 => (intro wq hSw; (try dsimp only at hSw); go_simp; (try (with_reducible rfl)))
  go_frame
  refine wpAnyH_takeD (some 4) (i := 1) (v := ?vh1_1) rfl rfl (by kernel_rfl) (by kernel_rfl) (by kernel_rfl) (fun _ _ _ h => h) (by rfl) ?hh1_1 (by assumption) ?_
  case hh1_1 => (intro wq hSw; (try dsimp only at hSw); go_simp; (try (with_reducible rfl)))
  go_frame
  refine wpAnyH_ready (rs := [2]) (by kernel_rfl) (by simp) ?_
  refine AllReadyH.cons rfl (fun K hK => ?_) AllReadyH.nil
  go_simp
  refine (HL.out _).mono ?_; rintro en w2 ⟨A2, c2, rfl, hown2, hb2⟩; have hbx2 := hb0.drew.trans (hb2.mono (Nat.le_refl _)); obtain ⟨b2, o2, hA2, hlt2⟩ := rd_addr (Rd.of_own hown2) (by rw [HTl.out]; omega); subst hA2
  go_wp2_with fail
  refine hK.out _ _ (HR.out _ hbx2) (fun hHeld => ?_)
  clear hK K
  try go_frame
  refine wpAnyH_takeD (some 6) (i := 3) (v := (.agg (rkC s (.slice (some ⟨b2, o2, none⟩) 32 c2)))) rfl rfl (by kernel_rfl) (by kernel_rfl) (by kernel_rfl) (fun _ _ _ h => h) (by rfl) (fun wq _ => run_buildRK s _ (.tmp 3) (.tmp 5) rfl rfl rfl ⟨_, _, _, rfl⟩ _) (by assumption) ?_
  go_frame
  refine wpAnyH_ready (rs := [4]) (by kernel_rfl) (by simp) ?_
  refine AllReadyH.cons rfl (fun K hK => ?_) AllReadyH.nil
  go_simp
  refine hK.out _ _ (HR.out _ (hbx2.alloc hbx2.size _)) (fun hHeld => ?_)
  clear hK K
  try go_frame
  refine wpAnyH_takeD (some 2) (i := 5) (v := ?vh1_5) rfl rfl (by kernel_rfl) (by kernel_rfl) (by kernel_rfl) (fun _ _ _ h => h) (by rfl) ?hh1_5 (by assumption) ?_
  case hh1_5 => (intro wq hSw; (try dsimp only at hSw); go_simp; (try (with_reducible rfl)))
  go_frame
  refine wpAnyH_done (by kernel_rfl) ?_ _
  refine NoPanic.normal ?_
  go_wp2
  go_ret
  have hbw2 := hbW.trans (hbx2.mono hbW.size)
  rw [HQ.out]
  refine ⟨w2.heap.size, b2, o2, c2, rfl, hbw2.size, by simp, Blk.new w2 _ _, own_base (hown2.alloc _) hbW.size, hbw2.alloc hbw2.size _⟩

theorem rk_seed (s : Nm) (top : Value) (j : Nat) (u : Value) (h : s.cells[j]? = some u) : (rkC s top)[0 + j]? = some u := by
  have hj : j < 8 := (Array.getElem?_eq_some_iff.1 h).1
  rw [Nat.zero_add]
  rcases j with _ | _ | _ | _ | _ | _ | _ | _ | j <;> first | exact h | omega
theorem rk_bot (s : Nm) (top : Value) (t : Nat) (ht : t < 32) : (rkC s top)[9 + t]? = some nilV := by
  rcases t with _ | _ | _ | _ | _ | _ | _ | _ | _ | _ | _ | _ | _ | _ | _ | _ | _ | _ | _ | _ | _ | _ | _ | _ | _ | _ | _ | _ | _ | _ | _ | _ | t <;> first | rfl | omega
theorem rk_set (s : Nm) (top : Value) (t : Nat) (v : Value) (j : Nat) (u : Value) (h : s.cells[j]? = some u) : ((rkC s top).setIfInBounds (9 + t) v)[0 + j]? = some u := by
  have hj : j < 8 := (Array.getElem?_eq_some_iff.1 h).1
  rw [Array.getElem?_setIfInBounds_ne (by omega)]
  exact rk_seed s top j u h
/-- A key whose tree t is known. -/
structure RKAt (s : Nm) (h t : Nat) (top bot : Value) (w : World) : Prop where
  cs : ∃ cs, Blk w h 162 cs ∧ (∀ j u, s.cells[j]? = some u → cs[0 + j]? = some u) ∧ cs[8]? = some top ∧ cs[9 + t]? = some bot
theorem RKAt.below {s : Nm} {h t : Nat} {top bot : Value} {w w' : World} (hk : RKAt s h t top bot w) (hb : Below w.heap.size w w') : RKAt s h t top bot w' := by
  obtain ⟨cs, h1, h2⟩ := hk.cs
  exact ⟨cs, h1.below hb h1.lt, h2⟩
theorem RKAt.keep {s : Nm} {h t : Nat} {top bot : Value} {w w' : World} (hk : RKAt s h t top bot w) (hb : KeepTy w w') : RKAt s h t top bot w' := by
  obtain ⟨cs, h1, h2⟩ := hk.cs
  exact ⟨cs, hb _ _ _ (by decide) h1, h2⟩
theorem RKAt.get {s : Nm} {h t : Nat} {top bot : Value} {w : World} (hk : RKAt s h t top bot w) : rowAt w h 0 8 = some s.cells ∧ w.cell? ⟨h, 8, none⟩ = some top ∧ w.cell? ⟨h, 9 + t, none⟩ = some bot ∧ h < w.heap.size := by
  obtain ⟨cs, h1, h2, h3, h4⟩ := hk.cs
  exact ⟨Blk.part h1 0 s.cells h2, (h1.cell 8).trans h3, (h1.cell _).trans h4, h1.lt⟩
theorem NamesIn.rd {w : World} {A : Option Addr} {l : List Nm} (h : NamesIn w A l) : Rd w w.heap.size A (l.flatMap nmc) := by
  rcases h with h | ⟨g, o, cur, rfl, h2, h3⟩
  · rw [h]; exact .inl rfl
  · refine .inr ⟨g, o, rfl, h2.lt, fun j u hu => ?_⟩
    have hj : j < l.length * 8 := by
      have := (List.getElem?_eq_some_iff.1 hu).1
      rwa [flat_length nmc 8 l (nmc_len l)] at this
    have hk : j / 8 < l.length := by omega
    have e1 := flat_get nmc 8 l (nmc_len l) (j / 8) (j % 8) l[j / 8] (List.getElem?_eq_getElem hk) (Nat.mod_lt _ (by omega))
    rw [show j / 8 * 8 + j % 8 = j from by omega, hu] at e1
    have h4 := h3 (j / 8) l[j / 8] (List.getElem?_eq_getElem hk) (j % 8) u (by rw [e1]; simp)
    rw [show o + j / 8 * 8 + j % 8 = o + j from by omega] at h4
    rw [h2.cell]; exact h4
theorem NamesIn.put {w : World} {A : Option Addr} {l : List Nm} {h t : Nat} {cs : Array Value} (hn : NamesIn w A l) (hB : Blk w h t cs) (ht : t ≠ 29) (i : Nat) (v : Value) : NamesIn (w.setCell ⟨h, i, none⟩ v) A l := by
  rcases hn with h1 | ⟨g, o, cur, h1, h2, h3⟩
  · exact .inl h1
  · refine .inr ⟨g, o, cur, h1, h2.far (p := ⟨h, i, none⟩) ?_ v, h3⟩
    rintro rfl
    exact ht (blk_type hB h2)
/-- Where the key's Sign stands: the key, the name, both trees. -/
structure RS (s nm : Nm) (h t q b o c b2 o2 c2 : Nat) (w : World) : Prop where
  key : RKAt s h t (.slice (some ⟨b, o, none⟩) 32 c) (.slice (some ⟨b2, o2, none⟩) 32 c2) w
  x : Blk w q 29 nm.cells
  tn : NamesIn w (some ⟨b, o, none⟩) (treeF s 2 0)
  bn : NamesIn w (some ⟨b2, o2, none⟩) (treeF s 1 t)
theorem RS.below {s nm : Nm} {h t q b o c b2 o2 c2 : Nat} {w w' : World} (r : RS s nm h t q b o c b2 o2 c2 w) (hb : Below w.heap.size w w') : RS s nm h t q b o c b2 o2 c2 w' :=
  ⟨r.key.below hb, r.x.below hb r.x.lt, r.tn.below hb, r.bn.below hb⟩
theorem RS.keep {s nm : Nm} {h t q b o c b2 o2 c2 : Nat} {w w' : World} (r : RS s nm h t q b o c b2 o2 c2 w) (hb : KeepTy w w') : RS s nm h t q b o c b2 o2 c2 w' :=
  ⟨r.key.keep hb, hb _ _ _ (by decide) r.x, KeepTy.names r.tn hb, KeepTy.names r.bn hb⟩
theorem RS.get {s nm : Nm} {h t q b o c b2 o2 c2 : Nat} {w : World} (r : RS s nm h t q b o c b2 o2 c2 w) : rowAt w h 0 8 = some s.cells ∧ w.cell? ⟨h, 8, none⟩ = some (.slice (some ⟨b, o, none⟩) 32 c) ∧ w.cell? ⟨h, 9 + t, none⟩ = some (.slice (some ⟨b2, o2, none⟩) 32 c2) ∧ rowAt w q 0 8 = some nm.cells :=
  ⟨r.key.get.1, r.key.get.2.1, r.key.get.2.2.1, r.x.row 8 rfl⟩
/-- Where the key's Sign stands behind the first part. -/
def RPart (R : World → Prop) (N : World → Prop) (base h n : Nat) (xs : List Value) (w : World) (s : Value) (wx : World) : Prop :=
  ∃ A c, s = .slice A n c ∧ wx.ownsRow base 5 1 (.slice A n c) n xs ∧ R wx ∧ N wx ∧ Below h w wx ∧ base ≤ wx.heap.size
/-- The key returned a signature; below the key nothing has turned. -/
def RKSgPost (s : Nm) (h leaf : Nat) (nm : Nm) (w : World) (e : Ending) (w' : World) : Prop :=
  ∃ A c, e = .returned (.tuple #[.slice A 370 c, .bool true]) ∧ w'.ownsRow w.heap.size 5 1 (.slice A 370 c) 370 ((sigF s leaf nm).map B) ∧ Below h w w'

set_option maxRecDepth 100000 in
set_option maxHeartbeats 8000000 in
theorem rksign_any (s nm : Nm) (h leaf b o c : Nat) (w : World) (hB : Blk w h 162 (rkC s (.slice (some ⟨b, o, none⟩) 32 c))) (hT : w.ownsRow 0 29 8 (.slice (some ⟨b, o, none⟩) 32 c) 32 ((treeF s 2 0).flatMap nmc)) (hlf : leaf < 1024) :
    Calls Tryz.prog 80 #[.pointer (some ⟨h, 0, none⟩), .int .i64 (leaf : Int), nm.val] w (RKSgPost s h leaf nm w) := by
  obtain ⟨W, hW⟩ : ∃ W, W = w.alloc (.cells nm.cells 29) := ⟨_, rfl⟩
  have hbW : Below w.heap.size w W := by rw [hW]; exact (Below.refl _ _).alloc (Nat.le_refl _) _
  have hX : Blk W w.heap.size 29 nm.cells := by rw [hW]; exact Blk.new w _ _
  obtain ⟨t, ht⟩ : ∃ t, t = leaf / 32 := ⟨_, rfl⟩
  obtain ⟨u, hu⟩ : ∃ u, u = leaf % 32 := ⟨_, rfl⟩
  have ht32 : t < 32 := by omega
  have hu32 : u < 32 := by omega
  have et : (leaf : Int) / 32 = (t : Int) := by omega
  have eu : (leaf : Int) % 32 = (u : Int) := by omega
  have etm : (leaf : Int).tmod 32 = (u : Int) := by rw [hu]; rfl
  have hhl := hB.lt
  have hBW := hB.below hbW hB.lt
  have c9 : W.cell? ⟨h, 9 + t, none⟩ = some nilV := (hBW.cell _).trans (rk_bot s _ t ht32)
  have HF9 : Hid (∀ V, Below W.heap.size W V → V.cell? ⟨h, 9 + t, none⟩ = some nilV ∧ V.frozen? ⟨h, 9 + t, none⟩ = false ∧ rowAt V h 0 8 = some s.cells) := fun V hV => by
    have h1 := hBW.below hV hBW.lt
    exact ⟨(h1.cell _).trans (rk_bot s _ t ht32), h1.frozen _, Blk.part h1 0 s.cells (rk_seed s _)⟩
  have HL := Lib.hid (fun V => rleaves_any s 1 t V (by omega) ht32)
  have HBW := Lib.hid hBW
  have HX := Lib.hid hX
  have HTW := Lib.hid (own_below hT hbW (Nat.le_refl _))
  have i1 : (0 : Int) ≤ (t : Int) := by omega
  have i2 : (t : Int) < 32 := by omega
  have d0 : decide ((leaf : Int) < 0) = false := by simp
  have d1 : decide ((1024 : Int) ≤ (leaf : Int)) = false := by simp; omega
  have hcap : 32 ≤ c ∧ c ≤ maxLen := by
    rcases hT.2 with ⟨hv, _⟩ | ⟨g, cap, cur, hv, _, _, h1, h2, _⟩
    · cases hv
    · injection hv with _ _ hc; omega
  obtain ⟨q, hq⟩ : ∃ q, q = w.heap.size := ⟨_, rfl⟩
  have HQ : Hid (q = w.heap.size) := hq
  rw [← hq] at HX
  obtain ⟨top, htop⟩ : ∃ top, top = Value.slice (some ⟨b, o, none⟩) 32 c := ⟨_, rfl⟩
  have hb0 : Below W.heap.size W W := Below.refl _ _
  have HTt := Lib.hid ht
  have HUu := Lib.hid hu
  have HTop := Lib.hid htop
  clear hB hT hBW hX ht hu htop
  go_enter Tryz.func80, Tryz.ntmps80
  go_upto_region 1 with fail
  rw [← hW, ← hq]
  clear hW hq
  go_upto_region 5 with fail
  refine wp_region_noPanic ?_
  refine wp_region_held_drew (S := fun w' => rowAt w' h 0 8 = some s.cells) (by kernel_rfl) ((HF9.out _ hb0.drew).2.2) (fun hHeld => ?_)
  refine wpAnyH_takeD (some 30) (i := 0) (v := ?vh2_0) rfl rfl (by kernel_rfl) (by kernel_rfl) (by kernel_rfl) (fun _ _ _ h => h) (by rfl) ?hh2_0 (by assumption) ?_
  case hh2_0 => (intro wq hSw; (try dsimp only at hSw); go_simp; (try (with_reducible rfl)))
  go_frame
  refine wpAnyH_takeD (some 31) (i := 1) (v := ?vh2_1) rfl rfl (by kernel_rfl) (by kernel_rfl) (by kernel_rfl) (fun _ _ _ h => h) (by rfl) ?hh2_1 (by assumption) ?_
  case hh2_1 => (intro wq hSw; (try dsimp only at hSw); go_simp; (try (with_reducible rfl)))
  go_frame
  refine wpAnyH_takeD (some 32) (i := 2) (v := ?vh2_2) rfl rfl (by kernel_rfl) (by kernel_rfl) (by kernel_rfl) (fun _ _ _ h => h) (by rfl) ?hh2_2 (by assumption) ?_
  case hh2_2 => (intro wq hSw; (try dsimp only at hSw); go_simp; (try (with_reducible rfl)))
  go_frame
  refine wpAnyH_takeD (some 33) (i := 3) (v := ?vh2_3) rfl rfl (by kernel_rfl) (by kernel_rfl) (by kernel_rfl) (fun _ _ _ h => h) (by rfl) ?hh2_3 (by assumption) ?_
  case hh2_3 => (intro wq hSw; (try dsimp only at hSw); go_simp; (try (with_reducible rfl)))
  go_frame
  refine wpAnyH_takeD (some 34) (i := 4) (v := ?vh2_4) rfl rfl (by kernel_rfl) (by kernel_rfl) (by kernel_rfl) (fun _ _ _ h => h) (by rfl) ?hh2_4 (by assumption) ?_
  case hh2_4 => (intro wq hSw; (try dsimp only at hSw); go_simp; (try (with_reducible rfl)))
  go_frame
  refine wpAnyH_takeD (some 35) (i := 5) (v := ?vh2_5) rfl rfl (by kernel_rfl) (by kernel_rfl) (by kernel_rfl) (fun _ _ _ h => h) (by rfl) ?hh2_5 (by assumption) ?_
  case hh2_5 => (intro wq hSw; (try dsimp only at hSw); go_simp; (try (with_reducible rfl)))
  go_frame
  refine wpAnyH_takeD (some 36) (i := 6) (v := ?vh2_6) rfl rfl (by kernel_rfl) (by kernel_rfl) (by kernel_rfl) (fun _ _ _ h => h) (by rfl) ?hh2_6 (by assumption) ?_
  case hh2_6 => (intro wq hSw; (try dsimp only at hSw); go_simp; (try (with_reducible rfl)))
  go_frame
  refine wpAnyH_takeD (some 38) (i := 8) (v := ?vh2_8) rfl rfl (by kernel_rfl) (by kernel_rfl) (by kernel_rfl) (fun _ _ _ h => h) (by rfl) ?hh2_8 (by assumption) ?_
  case hh2_8 => (intro wq hSw; (try dsimp only at hSw); go_simp; (try (with_reducible rfl)))
  go_frame
  refine wpAnyH_takeD (some 39) (i := 9) (v := ?vh2_9) rfl rfl (by kernel_rfl) (by kernel_rfl) (by kernel_rfl) (fun _ _ _ h => h) (by rfl) ?hh2_9 (by assumption) ?_
  case hh2_9 => (intro wq hSw; (try dsimp only at hSw); go_simp; (try (with_reducible rfl)))
  go_frame
  refine wpAnyH_ready (rs := [7]) (by kernel_rfl) (by simp) ?_
  refine AllReadyH.cons rfl (fun K hK => ?_) AllReadyH.nil
  go_simp
  refine (HL.out _).mono ?_; rintro en w2 ⟨A2, c2, rfl, hown2, hb2⟩; have hbx2 := hb0.drew.trans (hb2.mono (Nat.le_refl _)); obtain ⟨g9, f9, r9⟩ := HF9.out _ hbx2; have HB2 := Lib.hid (HBW.out.below hbx2 HBW.out.lt)
  go_wp2_with fail
  refine hK.out _ _ ((HF9.out _ hbx2).2.2) (fun hHeld => ?_)
  clear hK K
  try go_frame
  refine wpAnyH_takeD (some 40) (i := 10) (v := ?vh2_10) rfl rfl (by kernel_rfl) (by kernel_rfl) (by kernel_rfl) (fun _ _ _ h => h) (by rfl) ?hh2_10 (by assumption) ?_
  case hh2_10 => (intro wq hSw; (try dsimp only at hSw); go_simp; (try (with_reducible rfl)))
  go_frame
  refine wpAnyH_ready (rs := [11]) (by kernel_rfl) (by simp) ?_
  refine AllReadyH.cons rfl (fun K hK => ?_) AllReadyH.nil
  go_simp
  refine hK.out _ _ (Blk.part (HB2.out.put (9 + t) _) 0 s.cells (rk_set s _ t _)) (fun hHeld => ?_)
  clear hK K
  try go_frame
  refine wpAnyH_done (by kernel_rfl) ?_ _
  refine NoPanic.normal ?_
  obtain ⟨b2, o2, hA2, _⟩ := rd_addr (Rd.of_own hown2) (by rw [treeF_len]; omega)
  subst hA2
  have hcap2 : 32 ≤ c2 ∧ c2 ≤ maxLen := by
    rcases hown2.2 with ⟨hv, _⟩ | ⟨g, cap, cur, hv, _, _, h1, h2, _⟩
    · cases hv
    · injection hv with _ _ hc; omega
  obtain ⟨V, hV⟩ : ∃ V, V = w2.setCell ⟨h, 9 + t, none⟩ (.slice (some ⟨b2, o2, none⟩) 32 c2) := ⟨_, rfl⟩
  have HRS : Hid (RS s nm h t q b o c b2 o2 c2 V) := by
    unfold Hid
    rw [hV]
    refine ⟨⟨_, HB2.out.put (9 + t) _, rk_set s _ t _, ?_, ?_⟩, (HX.out.below hbx2 HX.out.lt).far (p := ⟨h, 9 + t, none⟩) (by simp only; rw [HQ.out]; omega) _, ((NamesIn.own HTW.out).below hbx2).put HB2.out (by decide) _ _, (NamesIn.own hown2).put HB2.out (by decide) _ _⟩
    · rw [Array.getElem?_setIfInBounds_ne (by omega), ← HTop.out]; rfl
    · rw [Array.getElem?_setIfInBounds_self_of_lt (by simp; omega)]
  have HBV : Hid (Below h w V) := by
    unfold Hid
    rw [hV]
    exact ((hbW.mono (Nat.le_of_lt hhl)).trans (hbx2.mono (Nat.le_trans (Nat.le_of_lt hhl) hbW.size))).setCell (p := ⟨h, 9 + t, none⟩) (Nat.le_refl _) _
  have HVs : Hid (w.heap.size ≤ V.heap.size) := HBV.out.size
  rw [← hV]
  obtain ⟨r1, r2, r3, r4⟩ := HRS.out.get
  obtain ⟨p1, hp1⟩ : ∃ p, p = pathF 5 u (treeF s 1 t) := ⟨_, rfl⟩
  obtain ⟨p2, hp2⟩ : ∃ p, p = pathF 5 t (treeF s 2 0) := ⟨_, rfl⟩
  have HP1l : Hid (p1.length = 5) := by unfold Hid; rw [hp1]; exact pathF_len _ _ _
  have HP2l : Hid (p2.length = 5) := by unfold Hid; rw [hp2]; exact pathF_len _ _ _
  have HP1 : Hid (∀ Z, RS s nm h t q b o c b2 o2 c2 Z → Calls Tryz.prog 81 #[.slice (some ⟨b2, o2, none⟩) 32 c2, .int .i64 (u : Int)] Z (PathPost Z 5 p1)) := fun Z r => by rw [hp1]; exact rpath_any 5 u _ b2 o2 32 c2 Z (treeF_len _ _ _) rfl (by omega) hcap2.1 hcap2.2 hu32 r.bn.rd
  have HP2 : Hid (∀ Z, RS s nm h t q b o c b2 o2 c2 Z → Calls Tryz.prog 81 #[.slice (some ⟨b, o, none⟩) 32 c, .int .i64 (t : Int)] Z (PathPost Z 5 p2)) := fun Z r => by rw [hp2]; exact rpath_any 5 t _ b o 32 c Z (treeF_len _ _ _) rfl (by omega) hcap.1 hcap.2 ht32 r.tn.rd
  obtain ⟨rt, hrt⟩ : ∃ r, r = rootF 5 (treeF s 1 t) := ⟨_, rfl⟩
  have HRt : Hid (∀ Z, RS s nm h t q b o c b2 o2 c2 Z → Calls Tryz.prog 54 #[.slice (some ⟨b2, o2, none⟩) 32 c2] Z (NmPost Z rt)) := fun Z r => by rw [hrt]; exact rroot_any 5 _ _ 32 c2 Z (treeF_len _ _ _) rfl (by omega) hcap2.1 hcap2.2 r.bn.rd
  obtain ⟨x1, hx1⟩ : ∃ x, seedF s 1 t u = x := ⟨_, rfl⟩
  obtain ⟨x2, hx2⟩ : ∃ x, seedF s 2 0 t = x := ⟨_, rfl⟩
  have HK1 : Hid (∀ Z, Calls Tryz.prog 84 #[s.val, .int .i64 1, .int .i64 (t : Int), .int .i64 (u : Int)] Z (NmPost Z x1)) := fun Z => rkey_core s x1 1 t u Z (by omega) ht32 hu32 hx1
  have HK2 : Hid (∀ Z, Calls Tryz.prog 84 #[s.val, .int .i64 2, .int .i64 0, .int .i64 (t : Int)] Z (NmPost Z x2)) := fun Z => rkey_core s x2 2 0 t Z (by omega) (by omega) ht32 hx2
  obtain ⟨s1, hs1⟩ : ∃ l, l = osignF x1 nm := ⟨_, rfl⟩
  obtain ⟨s2, hs2⟩ : ∃ l, l = osignF x2 rt := ⟨_, rfl⟩
  have HS1l : Hid (s1.length = 18) := by unfold Hid; rw [hs1]; exact osignF_len _ _
  have HS2l : Hid (s2.length = 18) := by unfold Hid; rw [hs2]; exact osignF_len _ _
  have HO1 : Hid (∀ Z, Calls Tryz.prog 83 #[x1.val, nm.val] Z (RowPost Z 29 8 18 (s1.flatMap nmc))) := fun Z => by rw [hs1]; exact rosign_any x1 nm Z
  have HO2 : Hid (∀ Z, Calls Tryz.prog 83 #[x2.val, rt.val] Z (RowPost Z 29 8 18 (s2.flatMap nmc))) := fun Z => by rw [hs2]; exact rosign_any x2 rt Z
  obtain ⟨y0, hy0⟩ : ∃ y, y = UInt8.ofNat (leaf / 256) := ⟨_, rfl⟩
  obtain ⟨y1, hy1⟩ : ∃ y, y = UInt8.ofNat leaf := ⟨_, rfl⟩
  have ey0 : IntKind.u8.wrap ((leaf : Int) / 256) = (y0.toNat : Int) := by
    rw [hy0, IntKind.wrap_u8]
    simp
  have ey1 : IntKind.u8.wrap (leaf : Int) = (y1.toNat : Int) := by
    rw [hy1, IntKind.wrap_u8]
    simp
  obtain ⟨sg, hsg⟩ : ∃ sg, sg = sigF s leaf nm := ⟨_, rfl⟩
  have HSg : Hid (sg.map B = [B y0, B y1] ++ (s1.flatMap Nm.bytes).map B ++ (p1.flatMap Nm.bytes).map B ++ (s2.flatMap Nm.bytes).map B ++ (p2.flatMap Nm.bytes).map B) := by
    unfold Hid
    rw [hsg, sigF, partF, partF, ← HTt.out, ← HUu.out, ← hrt, hx1, hx2, ← hs1, ← hs2, ← hp1, ← hp2, ← hy0, ← hy1]
    simp
  have HSe := Lib.hid hsg
  have HNa : Hid (∀ (Z : World) (A A' : Option Addr) (n c0 c' m k : Nat) (xs : List Value) (l : List Nm), l.length = m → Z.ownsRow w.heap.size 5 1 (.slice A n c0) n xs → NamesIn Z A' l → w.heap.size ≤ Z.heap.size → n ≤ 1000 → m ≤ 1000 → k = n + 8 * m → Calls Tryz.prog 82 #[.slice A n c0, .slice A' m c'] Z fun e w' => ∃ A'' c'', e = .returned (.slice A'' k c'') ∧ w'.ownsRow w.heap.size 5 1 (.slice A'' k c'') k (xs ++ (l.flatMap Nm.bytes).map B) ∧ Below w.heap.size Z w' ∧ KeepTy Z w') :=
    fun Z A A' n c0 c' m k xs l h1 h2 h3 h4 h5 h6 h7 => by subst h7; exact rnames_any A A' n c0 c' w.heap.size m xs l Z h1 h2 h3 h4 h5 h6
  have HH : Hid (h ≤ w.heap.size) := Nat.le_of_lt hhl
  clear hV hp1 hp2 hrt hx1 hx2 hs1 hs2 hy0 hy1 hsg hown2 hb2 hbx2 g9 f9 r9 HB2 hHeld HF9 HL HBW HX HTW HTop HTt HUu c9 hbW hhl hcap hcap2 hb0
  try go_frame
  go_upto_region 8 with (first
    | (go_at_call 81; refine (HP1.out _ HRS.out).mono ?_; rintro en w4 ⟨A4, c4, rfl, hown4, hb4⟩; have HR4 := Lib.hid (HRS.out.below hb4); obtain ⟨q1, q2, q3, q4⟩ := HR4.out.get; clear HP1 HRS)
    | (go_at_call 81; refine (HP2.out _ HR4.out).mono ?_; rintro en w5 ⟨A5, c5, rfl, hown5, hb5⟩; have HR5 := Lib.hid (HR4.out.below hb5)))
  have HN4 := Lib.hid ((NamesIn.own hown4).below hb5)
  have HN5 := Lib.hid (NamesIn.own hown5)
  have hb45 := hb4.trans (hb5.mono hb4.size)
  have HB5 := Lib.hid (HBV.out.trans (hb45.mono (Nat.le_trans HH.out HVs.out)))
  have HS5 : Hid (w.heap.size ≤ w5.heap.size) := Nat.le_trans HVs.out hb45.size
  clear hown4 hown5 hb4 hb5 hb45 HR4 HBV HVs r1 r2 r3 r4 q1 q2 q3 q4 HP2
  have hx0 : Below w5.heap.size w5 w5 := Below.refl _ _
  have HGet : Hid (∀ Z, RS s nm h t q b o c b2 o2 c2 Z → rowAt Z h 0 8 = some s.cells ∧ rowAt Z q 0 8 = some nm.cells) := fun Z r => ⟨r.get.1, r.get.2.2.2⟩
  try go_frame
  go_cut [13] (fun sv wx => RPart (RS s nm h t q b o c b2 o2 c2) (fun z => NamesIn z A5 p2) w.heap.size h 186 ([B y0, B y1] ++ (s1.flatMap Nm.bytes).map B ++ (p1.flatMap Nm.bytes).map B) w sv wx)
  case first =>
    refine wp_region_noPanic ?_
    refine wp_region_held_drew (S := fun w' => rowAt w' h 0 8 = some s.cells ∧ rowAt w' q 0 8 = some nm.cells) (by kernel_rfl) (HGet.out _ (HR5.out.below hx0.drew)) (fun hHeld => ?_)
    refine wpAnyH_takeD (some 62) (i := 0) (v := ?vh3_0) rfl rfl (by kernel_rfl) (by kernel_rfl) (by kernel_rfl) (fun _ _ _ h => h) (by rfl) ?hh3_0 (by assumption) ?_
    case hh3_0 => (intro wq hSw; (try dsimp only at hSw); go_simp; (try (with_reducible rfl)))
    go_frame
    refine wpAnyH_takeD (some 63) (i := 1) (v := ?vh3_1) rfl rfl (by kernel_rfl) (by kernel_rfl) (by kernel_rfl) (fun _ _ _ h => h) (by rfl) ?hh3_1 (by assumption) ?_
    case hh3_1 => (intro wq hSw; (try dsimp only at hSw); go_simp; (try (with_reducible rfl)))
    go_frame
    refine wpAnyH_takeD (some 64) (i := 2) (v := ?vh3_2) rfl rfl (by kernel_rfl) (by kernel_rfl) (by kernel_rfl) (fun _ _ _ h => h) (by rfl) ?hh3_2 (by assumption) ?_
    case hh3_2 => (intro wq hSw; (try dsimp only at hSw); go_simp; (try (with_reducible rfl)))
    go_frame
    refine wpAnyH_takeD (some 65) (i := 3) (v := ?vh3_3) rfl rfl (by kernel_rfl) (by kernel_rfl) (by kernel_rfl) (fun _ _ _ h => h) (by rfl) ?hh3_3 (by assumption) ?_
    case hh3_3 => (intro wq hSw; (try dsimp only at hSw); go_simp; (try (with_reducible rfl)))
    go_frame
    refine wpAnyH_takeD (some 66) (i := 4) (v := ?vh3_4) rfl rfl (by kernel_rfl) (by kernel_rfl) (by kernel_rfl) (fun _ _ _ h => h) (by rfl) ?hh3_4 (by assumption) ?_
    case hh3_4 => (intro wq hSw; (try dsimp only at hSw); go_simp; (try (with_reducible rfl)))
    go_frame
    refine wpAnyH_takeD (some 68) (i := 6) (v := ?vh3_6) rfl rfl (by kernel_rfl) (by kernel_rfl) (by kernel_rfl) (fun _ _ _ h => h) (by rfl) ?hh3_6 (by assumption) ?_
    case hh3_6 => (intro wq hSw; (try dsimp only at hSw); go_simp; (try (with_reducible rfl)))
    go_frame
    refine wpAnyH_takeD (some 69) (i := 7) (v := ?vh3_7) rfl rfl (by kernel_rfl) (by kernel_rfl) (by kernel_rfl) (fun _ _ _ h => h) (by rfl) ?hh3_7 (by assumption) ?_
    case hh3_7 => (intro wq hSw; (try dsimp only at hSw); go_simp; (try (with_reducible rfl)))
    go_frame
    refine wpAnyH_takeD (some 70) (i := 8) (v := ?vh3_8) rfl rfl (by kernel_rfl) (by kernel_rfl) (by kernel_rfl) (fun _ _ _ h => h) (by rfl) ?hh3_8 (by assumption) ?_
    case hh3_8 => (intro wq hSw; (try dsimp only at hSw); go_simp; (try (with_reducible rfl)))
    go_frame
    refine wpAnyH_takeD (some 71) (i := 9) (v := ?vh3_9) rfl rfl (by kernel_rfl) (by kernel_rfl) (by kernel_rfl) (fun _ _ _ h => h) (by rfl) ?hh3_9 (by assumption) ?_
    case hh3_9 => (intro wq hSw; (try dsimp only at hSw); go_simp; (try (with_reducible rfl)))
    go_frame
    refine wpAnyH_takeD (some 72) (i := 10) (v := ?vh3_10) rfl rfl (by kernel_rfl) (by kernel_rfl) (by kernel_rfl) (fun _ _ _ h => h) (by rfl) ?hh3_10 (by assumption) ?_
    case hh3_10 => (intro wq hSw; (try dsimp only at hSw); go_simp; (try (with_reducible rfl)))
    go_frame
    refine wpAnyH_takeD (some 73) (i := 11) (v := ?vh3_11) rfl rfl (by kernel_rfl) (by kernel_rfl) (by kernel_rfl) (fun _ _ _ h => h) (by rfl) ?hh3_11 (by assumption) ?_
    case hh3_11 => (intro wq hSw; (try dsimp only at hSw); go_simp; (try (with_reducible rfl)))
    go_frame
    refine wpAnyH_takeD (some 74) (i := 12) (v := ?vh3_12) rfl rfl (by kernel_rfl) (by kernel_rfl) (by kernel_rfl) (fun _ _ _ h => h) (by rfl) ?hh3_12 (by assumption) ?_
    case hh3_12 => (intro wq hSw; (try dsimp only at hSw); go_simp; (try (with_reducible rfl)))
    go_frame
    refine wpAnyH_takeD (some 76) (i := 14) (v := ?vh3_14) rfl rfl (by kernel_rfl) (by kernel_rfl) (by kernel_rfl) (fun _ _ _ h => h) (by rfl) ?hh3_14 (by assumption) ?_
    case hh3_14 => (intro wq hSw; (try dsimp only at hSw); go_simp; (try (with_reducible rfl)))
    go_frame
    refine wpAnyH_takeD (some 79) (i := 17) (v := ?vh3_17) rfl rfl (by kernel_rfl) (by kernel_rfl) (by kernel_rfl) (fun _ _ _ h => h) (by rfl) ?hh3_17 (by assumption) ?_
    case hh3_17 => (intro wq hSw; (try dsimp only at hSw); go_simp; (try (with_reducible rfl)))
    go_frame
    refine wpAnyH_ready (rs := [5, 13]) (by kernel_rfl) (by simp) ?_
    refine AllReadyH.cons rfl (fun K hK => ?_) (AllReadyH.cons rfl (fun K hK => ?_) AllReadyH.nil)
    · go_simp
      have hxa := (hx0.alloc hx0.size (.cells #[B y0, B y1] 5)).drew
      have hGa := (Blk.new w5 5 #[B y0, B y1]).drew
      refine hK.out _ _ (HGet.out _ (HR5.out.below hxa)) (fun hHeld => ?_)
      clear hK K
      try go_frame
      refine wpAnyH_ready (rs := [13]) (by kernel_rfl) (by simp) ?_
      refine AllReadyH.cons rfl (fun K hK => ?_) AllReadyH.nil
      go_simp
      refine (HK1.out _).mono ?_; rintro en w6 ⟨rfl, hb6⟩; have hx6 := hxa.trans (hb6.mono hxa.size); have hG6 := hGa.below hb6 hGa.lt
      go_wp2_with fail
      refine hK.out _ _ (HGet.out _ (HR5.out.below hx6)) (fun hHeld => ?_)
      clear hK K
      try go_frame
      refine wpAnyH_ready (rs := [15]) (by kernel_rfl) (by simp) ?_
      refine AllReadyH.cons rfl (fun K hK => ?_) AllReadyH.nil
      go_simp
      refine (HO1.out _).mono ?_; rintro en w7 ⟨A7, c7, rfl, hown7, hb7⟩; have hx7 := hx6.trans (hb7.mono hx6.size); have hN7 := NamesIn.own hown7; have hG7 := hG6.below hb7 hG6.lt
      go_wp2_with fail
      refine hK.out _ _ (HGet.out _ (HR5.out.below hx7)) (fun hHeld => ?_)
      clear hK K
      try go_frame
      refine wpAnyH_ready (rs := [16]) (by kernel_rfl) (by simp) ?_
      refine AllReadyH.cons rfl (fun K hK => ?_) AllReadyH.nil
      go_simp
      refine (HNa.out _ _ _ 2 2 c7 18 146 _ _ HS1l.out ⟨rfl, .inr ⟨w5.heap.size, 2, _, rfl, Nat.le_trans HS5.out hx0.drew.size, hG7, by omega, by unfold maxLen; omega, rfl, rfl⟩⟩ hN7 (Nat.le_trans HS5.out hx7.size) (by omega) (by omega) rfl).mono ?_; rintro en w8 ⟨A8, c8, rfl, hown8, hb8, hk8⟩; have hR8 := (HR5.out.below hx7).keep hk8; have hN48 := KeepTy.names (HN4.out.below hx7) hk8; have hN58 := KeepTy.names (HN5.out.below hx7) hk8; have hs8 := Nat.le_trans (Nat.le_trans HS5.out hx7.size) hb8.size
      go_wp2_with fail
      refine hK.out _ _ (HGet.out _ hR8) (fun hHeld => ?_)
      clear hK K
      try go_frame
      refine wpAnyH_ready (rs := [18]) (by kernel_rfl) (by simp) ?_
      refine AllReadyH.cons rfl (fun K hK => ?_) AllReadyH.nil
      go_simp
      refine (HNa.out _ _ _ 146 c8 c4 5 186 _ _ HP1l.out hown8 hN48 hs8 (by omega) (by omega) rfl).mono ?_; rintro en w9 ⟨A9, c9, rfl, hown9, hb9, hk9⟩; have hR9 := hR8.keep hk9; have hN59 := KeepTy.names hN58 hk9
      go_wp2_with fail
      refine hK.out _ _ (HGet.out _ hR9) (fun hHeld => ?_)
      clear hK K
      try go_frame
      refine wpAnyH_takeD (some 13) (i := 19) (v := ?vh4_19) rfl rfl (by kernel_rfl) (by kernel_rfl) (by kernel_rfl) (fun _ _ _ h => h) (by rfl) ?hh4_19 (by assumption) ?_
      case hh4_19 => (intro wq hSw; (try dsimp only at hSw); go_simp; (try (with_reducible rfl)))
      go_frame
      refine wpAnyH_done (by kernel_rfl) ?_ _
      refine NoPanic.normal ?_
      go_wp2_with fail
      go_meet
      exact ⟨A9, c9, rfl, hown9, hR9, hN59, HB5.out.trans ((hx7.mono (Nat.le_trans HH.out HS5.out)).trans ((hb8.trans hb9).mono HH.out)), Nat.le_trans hs8 hb9.size⟩
    · go_simp
      refine (HK1.out _).mono ?_; rintro en w6 ⟨rfl, hb6⟩; have hx6 := hx0.drew.trans (hb6.mono hx0.drew.size)
      go_wp2_with fail
      refine hK.out _ _ (HGet.out _ (HR5.out.below hx6)) (fun hHeld => ?_)
      clear hK K
      try go_frame
      refine wpAnyH_ready (rs := [5, 15]) (by kernel_rfl) (by simp) ?_
      refine AllReadyH.cons rfl (fun K hK => ?_) (AllReadyH.cons rfl (fun K hK => ?_) AllReadyH.nil)
      · go_simp
        have hxa := hx6.alloc hx6.size (.cells #[B y0, B y1] 5)
        have hGa := (Blk.new w6 5 #[B y0, B y1])
        refine hK.out _ _ (HGet.out _ (HR5.out.below hxa)) (fun hHeld => ?_)
        clear hK K
        try go_frame
        refine wpAnyH_ready (rs := [15]) (by kernel_rfl) (by simp) ?_
        refine AllReadyH.cons rfl (fun K hK => ?_) AllReadyH.nil
        go_simp
        refine (HO1.out _).mono ?_; rintro en w7 ⟨A7, c7, rfl, hown7, hb7⟩; have hx7 := hxa.trans (hb7.mono hxa.size); have hN7 := NamesIn.own hown7; have hG7 := hGa.below hb7 hGa.lt
        go_wp2_with fail
        refine hK.out _ _ (HGet.out _ (HR5.out.below hx7)) (fun hHeld => ?_)
        clear hK K
        try go_frame
        refine wpAnyH_ready (rs := [16]) (by kernel_rfl) (by simp) ?_
        refine AllReadyH.cons rfl (fun K hK => ?_) AllReadyH.nil
        go_simp
        refine (HNa.out _ _ _ 2 2 c7 18 146 _ _ HS1l.out ⟨rfl, .inr ⟨w6.heap.size, 2, _, rfl, Nat.le_trans HS5.out hx6.size, hG7, by omega, by unfold maxLen; omega, rfl, rfl⟩⟩ hN7 (Nat.le_trans HS5.out hx7.size) (by omega) (by omega) rfl).mono ?_; rintro en w8 ⟨A8, c8, rfl, hown8, hb8, hk8⟩; have hR8 := (HR5.out.below hx7).keep hk8; have hN48 := KeepTy.names (HN4.out.below hx7) hk8; have hN58 := KeepTy.names (HN5.out.below hx7) hk8; have hs8 := Nat.le_trans (Nat.le_trans HS5.out hx7.size) hb8.size
        go_wp2_with fail
        refine hK.out _ _ (HGet.out _ hR8) (fun hHeld => ?_)
        clear hK K
        try go_frame
        refine wpAnyH_ready (rs := [18]) (by kernel_rfl) (by simp) ?_
        refine AllReadyH.cons rfl (fun K hK => ?_) AllReadyH.nil
        go_simp
        refine (HNa.out _ _ _ 146 c8 c4 5 186 _ _ HP1l.out hown8 hN48 hs8 (by omega) (by omega) rfl).mono ?_; rintro en w9 ⟨A9, c9, rfl, hown9, hb9, hk9⟩; have hR9 := hR8.keep hk9; have hN59 := KeepTy.names hN58 hk9
        go_wp2_with fail
        refine hK.out _ _ (HGet.out _ hR9) (fun hHeld => ?_)
        clear hK K
        try go_frame
        refine wpAnyH_takeD (some 13) (i := 19) (v := ?vh5_19) rfl rfl (by kernel_rfl) (by kernel_rfl) (by kernel_rfl) (fun _ _ _ h => h) (by rfl) ?hh5_19 (by assumption) ?_
        case hh5_19 => (intro wq hSw; (try dsimp only at hSw); go_simp; (try (with_reducible rfl)))
        go_frame
        refine wpAnyH_done (by kernel_rfl) ?_ _
        refine NoPanic.normal ?_
        go_wp2_with fail
        go_meet
        exact ⟨A9, c9, rfl, hown9, hR9, hN59, HB5.out.trans ((hx7.mono (Nat.le_trans HH.out HS5.out)).trans ((hb8.trans hb9).mono HH.out)), Nat.le_trans hs8 hb9.size⟩
      · go_simp
        refine (HO1.out _).mono ?_; rintro en w7 ⟨A7, c7, rfl, hown7, hb7⟩; have hx7 := hx6.trans (hb7.mono hx6.size); have hN7 := NamesIn.own hown7
        go_wp2_with fail
        refine hK.out _ _ (HGet.out _ (HR5.out.below hx7)) (fun hHeld => ?_)
        clear hK K
        try go_frame
        refine wpAnyH_ready (rs := [5]) (by kernel_rfl) (by simp) ?_
        refine AllReadyH.cons rfl (fun K hK => ?_) AllReadyH.nil
        go_simp
        have hxa := hx7.alloc hx7.size (.cells #[B y0, B y1] 5)
        have hGa := (Blk.new w7 5 #[B y0, B y1])
        have hNa := hN7.below ((Below.refl _ _).alloc (Nat.le_refl _) (.cells #[B y0, B y1] 5))
        refine hK.out _ _ (HGet.out _ (HR5.out.below hxa)) (fun hHeld => ?_)
        clear hK K
        try go_frame
        refine wpAnyH_ready (rs := [16]) (by kernel_rfl) (by simp) ?_
        refine AllReadyH.cons rfl (fun K hK => ?_) AllReadyH.nil
        go_simp
        refine (HNa.out _ _ _ 2 2 c7 18 146 _ _ HS1l.out ⟨rfl, .inr ⟨w7.heap.size, 2, _, rfl, Nat.le_trans HS5.out hx7.size, hGa, by omega, by unfold maxLen; omega, rfl, rfl⟩⟩ hNa (Nat.le_trans HS5.out hxa.size) (by omega) (by omega) rfl).mono ?_; rintro en w8 ⟨A8, c8, rfl, hown8, hb8, hk8⟩; have hR8 := (HR5.out.below hxa).keep hk8; have hN48 := KeepTy.names (HN4.out.below hxa) hk8; have hN58 := KeepTy.names (HN5.out.below hxa) hk8; have hs8 := Nat.le_trans (Nat.le_trans HS5.out hxa.size) hb8.size
        go_wp2_with fail
        refine hK.out _ _ (HGet.out _ hR8) (fun hHeld => ?_)
        clear hK K
        try go_frame
        refine wpAnyH_ready (rs := [18]) (by kernel_rfl) (by simp) ?_
        refine AllReadyH.cons rfl (fun K hK => ?_) AllReadyH.nil
        go_simp
        refine (HNa.out _ _ _ 146 c8 c4 5 186 _ _ HP1l.out hown8 hN48 hs8 (by omega) (by omega) rfl).mono ?_; rintro en w9 ⟨A9, c9, rfl, hown9, hb9, hk9⟩; have hR9 := hR8.keep hk9; have hN59 := KeepTy.names hN58 hk9
        go_wp2_with fail
        refine hK.out _ _ (HGet.out _ hR9) (fun hHeld => ?_)
        clear hK K
        try go_frame
        refine wpAnyH_takeD (some 13) (i := 19) (v := ?vh6_19) rfl rfl (by kernel_rfl) (by kernel_rfl) (by kernel_rfl) (fun _ _ _ h => h) (by rfl) ?hh6_19 (by assumption) ?_
        case hh6_19 => (intro wq hSw; (try dsimp only at hSw); go_simp; (try (with_reducible rfl)))
        go_frame
        refine wpAnyH_done (by kernel_rfl) ?_ _
        refine NoPanic.normal ?_
        go_wp2_with fail
        go_meet
        exact ⟨A9, c9, rfl, hown9, hR9, hN59, HB5.out.trans ((hxa.mono (Nat.le_trans HH.out HS5.out)).trans ((hb8.trans hb9).mono HH.out)), Nat.le_trans hs8 hb9.size⟩
  case rest =>
    obtain ⟨A9, c9, rfl, hown9, hR9, hN9, hb9, hs9⟩ := hcut
    have HR9 := Lib.hid hR9
    have HO9 := Lib.hid hown9
    have HN9 := Lib.hid hN9
    have hx9 : Below wc.heap.size wc wc := Below.refl _ _
    have HGet9 : Hid (∀ Z, RS s nm h t q b o c b2 o2 c2 Z → rowAt Z h 0 8 = some s.cells ∧ Z.cell? ⟨h, 9 + t, none⟩ = some (.slice (some ⟨b2, o2, none⟩) 32 c2)) := fun Z r => ⟨r.get.1, r.get.2.2.1⟩
    clear hR9 hown9 hN9 HN4 HN5 HR5 HK1 HO1 HP1l HS1l HGet hx0 HB5 HS5
    try go_frame
    go_upto_region 9 with fail
    refine wp_region_noPanic ?_
    refine wp_region_held_drew (S := fun w' => rowAt w' h 0 8 = some s.cells ∧ w'.cell? ⟨h, 9 + t, none⟩ = some (.slice (some ⟨b2, o2, none⟩) 32 c2)) (by kernel_rfl) (HGet9.out _ (HR9.out.below hx9.drew)) (fun hHeld => ?_)
    refine wpAnyH_takeD (some 81) (i := 0) (v := ?vh7_0) rfl rfl (by kernel_rfl) (by kernel_rfl) (by kernel_rfl) (fun _ _ _ h => h) (by rfl) ?hh7_0 (by assumption) ?_
    case hh7_0 => (intro wq hSw; (try dsimp only at hSw); go_simp; (try (with_reducible rfl)))
    go_frame
    refine wpAnyH_takeD (some 82) (i := 1) (v := ?vh7_1) rfl rfl (by kernel_rfl) (by kernel_rfl) (by kernel_rfl) (fun _ _ _ h => h) (by rfl) ?hh7_1 (by assumption) ?_
    case hh7_1 => (intro wq hSw; (try dsimp only at hSw); go_simp; (try (with_reducible rfl)))
    go_frame
    refine wpAnyH_takeD (some 83) (i := 2) (v := ?vh7_2) rfl rfl (by kernel_rfl) (by kernel_rfl) (by kernel_rfl) (fun _ _ _ h => h) (by rfl) ?hh7_2 (by assumption) ?_
    case hh7_2 => (intro wq hSw; (try dsimp only at hSw); go_simp; (try (with_reducible rfl)))
    go_frame
    refine wpAnyH_takeD (some 84) (i := 3) (v := ?vh7_3) rfl rfl (by kernel_rfl) (by kernel_rfl) (by kernel_rfl) (fun _ _ _ h => h) (by rfl) ?hh7_3 (by assumption) ?_
    case hh7_3 => (intro wq hSw; (try dsimp only at hSw); go_simp; (try (with_reducible rfl)))
    go_frame
    refine wpAnyH_takeD (some 85) (i := 4) (v := ?vh7_4) rfl rfl (by kernel_rfl) (by kernel_rfl) (by kernel_rfl) (fun _ _ _ h => h) (by rfl) ?hh7_4 (by assumption) ?_
    case hh7_4 => (intro wq hSw; (try dsimp only at hSw); go_simp; (try (with_reducible rfl)))
    go_frame
    refine wpAnyH_takeD (some 86) (i := 5) (v := ?vh7_5) rfl rfl (by kernel_rfl) (by kernel_rfl) (by kernel_rfl) (fun _ _ _ h => h) (by rfl) ?hh7_5 (by assumption) ?_
    case hh7_5 => (intro wq hSw; (try dsimp only at hSw); go_simp; (try (with_reducible rfl)))
    go_frame
    refine wpAnyH_takeD (some 88) (i := 7) (v := ?vh7_7) rfl rfl (by kernel_rfl) (by kernel_rfl) (by kernel_rfl) (fun _ _ _ h => h) (by rfl) ?hh7_7 (by assumption) ?_
    case hh7_7 => (intro wq hSw; (try dsimp only at hSw); go_simp; (try (with_reducible rfl)))
    go_frame
    refine wpAnyH_takeD (some 89) (i := 8) (v := ?vh7_8) rfl rfl (by kernel_rfl) (by kernel_rfl) (by kernel_rfl) (fun _ _ _ h => h) (by rfl) ?hh7_8 (by assumption) ?_
    case hh7_8 => (intro wq hSw; (try dsimp only at hSw); go_simp; (try (with_reducible rfl)))
    go_frame
    refine wpAnyH_takeD (some 90) (i := 9) (v := ?vh7_9) rfl rfl (by kernel_rfl) (by kernel_rfl) (by kernel_rfl) (fun _ _ _ h => h) (by rfl) ?hh7_9 (by assumption) ?_
    case hh7_9 => (intro wq hSw; (try dsimp only at hSw); go_simp; (try (with_reducible rfl)))
    go_frame
    refine wpAnyH_takeD (some 91) (i := 10) (v := ?vh7_10) rfl rfl (by kernel_rfl) (by kernel_rfl) (by kernel_rfl) (fun _ _ _ h => h) (by rfl) ?hh7_10 (by assumption) ?_
    case hh7_10 => (intro wq hSw; (try dsimp only at hSw); go_simp; (try (with_reducible rfl)))
    go_frame
    refine wpAnyH_takeD (some 92) (i := 11) (v := ?vh7_11) rfl rfl (by kernel_rfl) (by kernel_rfl) (by kernel_rfl) (fun _ _ _ h => h) (by rfl) ?hh7_11 (by assumption) ?_
    case hh7_11 => (intro wq hSw; (try dsimp only at hSw); go_simp; (try (with_reducible rfl)))
    go_frame
    refine wpAnyH_takeD (some 93) (i := 12) (v := ?vh7_12) rfl rfl (by kernel_rfl) (by kernel_rfl) (by kernel_rfl) (fun _ _ _ h => h) (by rfl) ?hh7_12 (by assumption) ?_
    case hh7_12 => (intro wq hSw; (try dsimp only at hSw); go_simp; (try (with_reducible rfl)))
    go_frame
    refine wpAnyH_takeD (some 97) (i := 16) (v := ?vh7_16) rfl rfl (by kernel_rfl) (by kernel_rfl) (by kernel_rfl) (fun _ _ _ h => h) (by rfl) ?hh7_16 (by assumption) ?_
    case hh7_16 => (intro wq hSw; (try dsimp only at hSw); go_simp; (try (with_reducible rfl)))
    go_frame
    refine wpAnyH_ready (rs := [6]) (by kernel_rfl) (by simp) ?_
    refine AllReadyH.cons rfl (fun K hK => ?_) AllReadyH.nil
    go_simp
    refine (HK2.out _).mono ?_; rintro en w10 ⟨rfl, hb10⟩; have hx10 := hx9.drew.trans (hb10.mono (Nat.le_refl _))
    go_wp2_with fail
    refine hK.out _ _ (HGet9.out _ (HR9.out.below hx10)) (fun hHeld => ?_)
    clear hK K
    try go_frame
    refine wpAnyH_ready (rs := [13]) (by kernel_rfl) (by simp) ?_
    refine AllReadyH.cons rfl (fun K hK => ?_) AllReadyH.nil
    go_simp
    refine (HRt.out _ (HR9.out.below hx10)).mono ?_; rintro en w11 ⟨rfl, hb11⟩; have hx11 := hx10.trans (hb11.mono hx10.size)
    go_wp2_with fail
    refine hK.out _ _ (HGet9.out _ (HR9.out.below hx11)) (fun hHeld => ?_)
    clear hK K
    try go_frame
    refine wpAnyH_ready (rs := [14]) (by kernel_rfl) (by simp) ?_
    refine AllReadyH.cons rfl (fun K hK => ?_) AllReadyH.nil
    go_simp
    refine (HO2.out _).mono ?_; rintro en w12 ⟨A12, c12, rfl, hown12, hb12⟩; have hx12 := hx11.trans (hb12.mono hx11.size); have hN12 := NamesIn.own hown12; have hs12 := Nat.le_trans hs9 hx12.size
    go_wp2_with fail
    refine hK.out _ _ (HGet9.out _ (HR9.out.below hx12)) (fun hHeld => ?_)
    clear hK K
    try go_frame
    refine wpAnyH_ready (rs := [15]) (by kernel_rfl) (by simp) ?_
    refine AllReadyH.cons rfl (fun K hK => ?_) AllReadyH.nil
    go_simp
    refine (HNa.out _ _ _ 186 c9 c12 18 330 _ _ HS2l.out (own_below HO9.out hx12 (Nat.le_refl _)) hN12 hs12 (by omega) (by omega) rfl).mono ?_; rintro en w13 ⟨A13, c13, rfl, hown13, hb13, hk13⟩; have hR13 := (HR9.out.below hx12).keep hk13; have hN13 := KeepTy.names (HN9.out.below hx12) hk13; have hs13 := Nat.le_trans hs12 hb13.size
    go_wp2_with fail
    refine hK.out _ _ (HGet9.out _ hR13) (fun hHeld => ?_)
    clear hK K
    try go_frame
    refine wpAnyH_ready (rs := [17]) (by kernel_rfl) (by simp) ?_
    refine AllReadyH.cons rfl (fun K hK => ?_) AllReadyH.nil
    go_simp
    refine (HNa.out _ _ _ 330 c13 c5 5 370 _ _ HP2l.out hown13 hN13 hs13 (by omega) (by omega) rfl).mono ?_; rintro en w14 ⟨A14, c14, rfl, hown14, hb14, hk14⟩; have hR14 := hR13.keep hk14
    go_wp2_with fail
    refine hK.out _ _ (HGet9.out _ hR14) (fun hHeld => ?_)
    clear hK K
    try go_frame
    refine wpAnyH_takeD (some 6) (i := 18) (v := ?vh7_18) rfl rfl (by kernel_rfl) (by kernel_rfl) (by kernel_rfl) (fun _ _ _ h => h) (by rfl) ?hh7_18 (by assumption) ?_
    case hh7_18 => (intro wq hSw; (try dsimp only at hSw); go_simp; (try (with_reducible rfl)))
    go_frame
    refine wpAnyH_takeD (some 7) (i := 19) (v := ?vh7_19) rfl rfl (by kernel_rfl) (by kernel_rfl) (by kernel_rfl) (fun _ _ _ h => h) (by rfl) ?hh7_19 (by assumption) ?_
    case hh7_19 => (intro wq hSw; (try dsimp only at hSw); go_simp; (try (with_reducible rfl)))
    go_frame
    refine wpAnyH_done (by kernel_rfl) ?_ _
    refine NoPanic.normal ?_
    go_wp2
    go_ret2
    exact ⟨A14, c14, rfl, by rw [← HSe.out, HSg.out]; exact hown14, hb9.trans ((hx12.mono (Nat.le_trans HH.out hs9)).trans ((hb13.trans hb14).mono HH.out))⟩
end Go.Proofs.YthmecidpjlaonaaGreat
namespace Go.Proofs.YthmecidpjlaonaaGreat
open Go.RowKit
attribute [local go_sem ↓] Go.wp_at_zero Go.wp_at_succ loadNm loadVt loadSg loadEv
attribute [local go_sem] runNm runVt runSg runEv pickRow_some rowAt_drew rowAt_drewN

set_option maxRecDepth 100000 in
set_option maxHeartbeats 2000000 in
theorem rksign_no (nm : Nm) (p : Option Addr) (leaf : Int) (w : World) (hl : leaf < 0 ∨ 1024 ≤ leaf) : Calls Tryz.prog 80 #[.pointer p, .int .i64 leaf, nm.val] w (RowFalse w) := by
  by_cases h0 : leaf < 0
  · have d0 : decide (leaf < 0) = true := by simp; omega
    go_enter Tryz.func80, Tryz.ntmps80
    go_wp2
    go_ret2
    exact ⟨rfl, (Below.refl _ _).alloc (Nat.le_refl _) _⟩
  · have d0 : decide (leaf < 0) = false := by simp; omega
    have d1 : decide (1024 ≤ leaf) = true := by simp; omega
    go_enter Tryz.func80, Tryz.ntmps80
    go_wp2
    go_ret2
    exact ⟨rfl, (Below.refl _ _).alloc (Nat.le_refl _) _⟩
/-- What a Sign of names returned: any ending that the key's Sign has. -/
def RSgPost (Q : World → Value → World → Prop) (w : World) (e : Ending) (w' : World) : Prop := ∃ v ok, e = .returned (.tuple #[v, .bool ok]) ∧ Q w (.tuple #[v, .bool ok]) w' ∧ Below w.heap.size w w'
set_option maxRecDepth 100000 in
set_option maxHeartbeats 4000000 in
theorem rsign1_core (Q : Value → Bool → World → Prop) (s nm : Nm) (leaf : Int) (w : World)
    (hk : ∀ h b o c W, w.heap.size ≤ h → h < W.heap.size → w.heap.size ≤ W.heap.size → Blk W h 162 (rkC s (.slice (some ⟨b, o, none⟩) 32 c)) → W.ownsRow 0 29 8 (.slice (some ⟨b, o, none⟩) 32 c) 32 ((treeF s 2 0).flatMap nmc) → Calls Tryz.prog 80 #[.pointer (some ⟨h, 0, none⟩), .int .i64 leaf, nm.val] W (fun e w' => ∃ v ok, e = .returned (.tuple #[v, .bool ok]) ∧ Q v ok w' ∧ Below h W w')) :
    Calls Tryz.prog 52 #[s.val, .int .i64 2, .int .i64 leaf, nm.val] w (fun e w' => ∃ v ok, e = .returned (.tuple #[v, .bool ok]) ∧ Q v ok w' ∧ Below w.heap.size w w') := by
  obtain ⟨W, hW⟩ : ∃ W, W = (w.alloc (.cells s.cells 29)).alloc (.cells nm.cells 29) := ⟨_, rfl⟩
  have hbW : Below w.heap.size w W := by rw [hW]; exact ((Below.refl _ _).alloc (Nat.le_refl _) _).alloc (by simp) _
  have hBs : Blk W w.heap.size 29 s.cells := by rw [hW]; exact (Blk.new w _ _).alloc _
  have hBn : Blk W (w.heap.size + 1) 29 nm.cells := by
    rw [hW]
    have := Blk.new (w.alloc (.cells s.cells 29)) 29 nm.cells
    simpa using this
  obtain ⟨p, hp⟩ : ∃ p, p = w.heap.size := ⟨_, rfl⟩
  obtain ⟨q, hq⟩ : ∃ q, q = w.heap.size + 1 := ⟨_, rfl⟩
  rw [← hp] at hBs
  rw [← hq] at hBn
  have HRows : Hid (∀ V, Below W.heap.size W V → rowAt V p 0 8 = some s.cells ∧ rowAt V q 0 8 = some nm.cells) := fun V hV => ⟨(hBs.below hV hBs.lt).row 8 rfl, (hBn.below hV hBn.lt).row 8 rfl⟩
  have HNK := Lib.hid (fun V => rnewKey_any s V)
  have HK := Lib.hid hk
  have hbx : Below W.heap.size W W := Below.refl _ _
  clear hk hBs hBn
  go_enter Tryz.func52, Tryz.ntmps52
  go_upto_region 2 with fail
  rw [← hW, ← hq, ← hp]
  clear hW hq hp
  refine wp_region_noPanic ?_
  refine wp_region_held_drew (S := fun w' => rowAt w' p 0 8 = some s.cells ∧ rowAt w' q 0 8 = some nm.cells) (by kernel_rfl) (HRows.out _ hbx.drew) (fun hHeld => ?_)
  refine wpAnyH_takeD (some 14) (i := 0) (v := ?vh1_0) rfl rfl (by kernel_rfl) (by kernel_rfl) (by kernel_rfl) (fun _ _ _ h => h) (by rfl) ?hh1_0 (by assumption) ?_
  case hh1_0 => (intro wq hSw; (try dsimp only at hSw); go_simp; (try (with_reducible rfl)))
  go_frame
  refine wpAnyH_takeD (some 16) (i := 2) (v := ?vh1_2) rfl rfl (by kernel_rfl) (by kernel_rfl) (by kernel_rfl) (fun _ _ _ h => h) (by rfl) ?hh1_2 (by assumption) ?_
  case hh1_2 => (intro wq hSw; (try dsimp only at hSw); go_simp; (try (with_reducible rfl)))
  go_frame
  refine wpAnyH_takeD (some 17) (i := 3) (v := ?vh1_3) rfl rfl (by kernel_rfl) (by kernel_rfl) (by kernel_rfl) (fun _ _ _ h => h) (by rfl) ?hh1_3 (by assumption) ?_
  case hh1_3 => (intro wq hSw; (try dsimp only at hSw); go_simp; (try (with_reducible rfl)))
  go_frame
  refine wpAnyH_ready (rs := [1]) (by kernel_rfl) (by simp) ?_
  refine AllReadyH.cons rfl (fun K hK => ?_) AllReadyH.nil
  go_simp
  refine (HNK.out _).mono ?_; rintro en w2 ⟨h, b, o, c, rfl, hh, hh1, hB2, hT2, hb2⟩; have hbx2 := hbx.drew.trans (hb2.mono (Nat.le_refl _)); have HB2 := Lib.hid hB2; have HT2 := Lib.hid hT2; have hhW : W.heap.size ≤ h := hh; have hh2 : h < w2.heap.size := by omega
  go_wp2_with fail
  refine hK.out _ _ (HRows.out _ hbx2) (fun hHeld => ?_)
  clear hK K
  try go_frame
  refine wpAnyH_ready (rs := [4]) (by kernel_rfl) (by simp) ?_
  refine AllReadyH.cons rfl (fun K hK => ?_) AllReadyH.nil
  go_simp
  refine (HK.out h b o c _ (Nat.le_trans hbW.size hhW) hh2 (Nat.le_trans hbW.size hbx2.size) HB2.out (own_base HT2.out (Nat.zero_le _))).mono ?_; rintro en w3 ⟨v, ok, rfl, hQ3, hb3⟩; have hbx3 := hbx2.trans (hb3.mono hhW)
  go_wp2_with fail
  refine hK.out _ _ (HRows.out _ hbx3) (fun hHeld => ?_)
  clear hK K
  try go_frame
  refine wpAnyH_takeD (some 19) (i := 5) (v := ?vh1_5) rfl rfl (by kernel_rfl) (by kernel_rfl) (by kernel_rfl) (fun _ _ _ h => h) (by rfl) ?hh1_5 (by assumption) ?_
  case hh1_5 => (intro wq hSw; (try dsimp only at hSw); go_simp; (try (with_reducible rfl)))
  go_frame
  refine wpAnyH_takeD (some 20) (i := 6) (v := ?vh1_6) rfl rfl (by kernel_rfl) (by kernel_rfl) (by kernel_rfl) (fun _ _ _ h => h) (by rfl) ?hh1_6 (by assumption) ?_
  case hh1_6 => (intro wq hSw; (try dsimp only at hSw); go_simp; (try (with_reducible rfl)))
  go_frame
  refine wpAnyH_takeD (some 8) (i := 7) (v := ?vh1_7) rfl rfl (by kernel_rfl) (by kernel_rfl) (by kernel_rfl) (fun _ _ _ h => h) (by rfl) ?hh1_7 (by assumption) ?_
  case hh1_7 => (intro wq hSw; (try dsimp only at hSw); go_simp; (try (with_reducible rfl)))
  go_frame
  refine wpAnyH_takeD (some 9) (i := 8) (v := ?vh1_8) rfl rfl (by kernel_rfl) (by kernel_rfl) (by kernel_rfl) (fun _ _ _ h => h) (by rfl) ?hh1_8 (by assumption) ?_
  case hh1_8 => (intro wq hSw; (try dsimp only at hSw); go_simp; (try (with_reducible rfl)))
  go_frame
  refine wpAnyH_done (by kernel_rfl) ?_ _
  refine NoPanic.normal ?_
  go_wp2
  go_ret2
  exact ⟨v, ok, rfl, hQ3, hbW.trans (hbx3.mono hbW.size)⟩

set_option maxRecDepth 100000 in
set_option maxHeartbeats 4000000 in
theorem rsign6_core (s : Nm) (leaf : Int) (v : Vt) (w : World) (ok : Bool) (Q : Value → World → Prop) (hv : v.ok) (hy : ValidP v)
    (hs : ∀ W, w.heap.size ≤ W.heap.size → Calls Tryz.prog 52 #[s.val, .int .i64 2, .int .i64 leaf, (nameF v).val] W (fun e w' => ∃ x, e = .returned (.tuple #[x, .bool ok]) ∧ Q x w' ∧ Below W.heap.size W w'))
    (G : Array Value → World → Prop)
    (hno : ok = false → ∀ w1, G zeroSc w1)
    (hyes : ok = true → ∀ x V, Q x V → ∃ sig A c, x = .slice A sig.length c ∧ (∀ V' k ty cs0, Blk V k ty cs0 → 5 ≠ ty → V.grownBy V' (some k) → G (Sg.mk v sig A c).cells V')) :
    Calls Tryz.prog 18 #[s.val, .int .i64 leaf, v.val] w (SgnG G ok w) := by
  obtain ⟨W, hW⟩ : ∃ W, W = ((w.alloc (.cells s.cells 29)).alloc (.cells v.cells 31)).alloc (.cells zeroSc 34) := ⟨_, rfl⟩
  have hbW : Below w.heap.size w W := by rw [hW]; exact (((Below.refl _ _).alloc (Nat.le_refl _) _).alloc (by simp) _).alloc (by simp; omega) _
  have hBs : Blk W w.heap.size 29 s.cells := by rw [hW]; exact ((Blk.new w _ _).alloc _).alloc _
  have hBv : Blk W (w.heap.size + 1) 31 v.cells := by
    rw [hW]
    have := (Blk.new (w.alloc (.cells s.cells 29)) 31 v.cells).alloc (.cells zeroSc 34)
    simpa using this
  have HBr : Hid (Blk W (w.heap.size + 2) 34 zeroSc) := by
    unfold Hid; rw [hW]
    have := Blk.new ((w.alloc (.cells s.cells 29)).alloc (.cells v.cells 31)) 34 zeroSc
    simpa using this
  obtain ⟨r, hr⟩ : ∃ r, r = w.heap.size + 2 := ⟨_, rfl⟩
  obtain ⟨q, hq⟩ : ∃ q, q = w.heap.size + 1 := ⟨_, rfl⟩
  obtain ⟨p, hp⟩ : ∃ p, p = w.heap.size := ⟨_, rfl⟩
  rw [← hr] at HBr
  rw [← hq] at hBv
  rw [← hp] at hBs
  have hrw : w.heap.size ≤ r := by omega
  have HRows : Hid (∀ V, Below W.heap.size W V → rowAt V p 0 8 = some s.cells ∧ rowAt V q 0 22 = some v.cells) := fun V hV => ⟨(hBs.below hV hBs.lt).row 8 rfl, (hBv.below hV hBv.lt).row 22 rfl⟩
  have HVa : Hid (∀ V, Calls Tryz.prog 51 #[v.val] V fun e w' => e = .returned (.bool true) ∧ Below V.heap.size V w') := fun V => rvalid_yes v V hv hy
  have HNm := Lib.hid (fun V => rvname_yes v V hv hy)
  obtain ⟨nm, hnm⟩ : ∃ nm, nm = nameF v := ⟨_, rfl⟩
  rw [← hnm] at hs HNm
  have HSn := Lib.hid hs
  have HNo := Lib.hid hno
  have HYes := Lib.hid hyes
  obtain ⟨r1, r2⟩ := HRows.out _ (Below.refl _ _)
  clear hs hno hyes hBs hBv hnm
  go_enter Tryz.func18, Tryz.ntmps18
  go_upto_region 1 with fail
  rw [← hW, ← hr, ← hq, ← hp]
  clear hW hr hq hp
  go_upto_region 3 with (go_at_call 51; refine (HVa.out _).mono ?_; rintro en w2 ⟨rfl, hb2⟩)
  clear r1 r2
  refine wp_region_noPanic ?_
  refine wp_region_held_drew (S := fun w' => rowAt w' p 0 8 = some s.cells ∧ rowAt w' q 0 22 = some v.cells) (by kernel_rfl) (HRows.out _ hb2.drew) (fun hHeld => ?_)
  refine wpAnyH_takeD (some 15) (i := 0) (v := ?vh2_0) rfl rfl (by kernel_rfl) (by kernel_rfl) (by kernel_rfl) (fun _ _ _ h => h) (by rfl) ?hh2_0 (by assumption) ?_
  case hh2_0 => (intro wq hSw; (try dsimp only at hSw); go_simp; (try (with_reducible rfl)))
  go_frame
  refine wpAnyH_takeD (some 16) (i := 1) (v := ?vh2_1) rfl rfl (by kernel_rfl) (by kernel_rfl) (by kernel_rfl) (fun _ _ _ h => h) (by rfl) ?hh2_1 (by assumption) ?_
  case hh2_1 => (intro wq hSw; (try dsimp only at hSw); go_simp; (try (with_reducible rfl)))
  go_frame
  refine wpAnyH_takeD (some 17) (i := 2) (v := ?vh2_2) rfl rfl (by kernel_rfl) (by kernel_rfl) (by kernel_rfl) (fun _ _ _ h => h) (by rfl) ?hh2_2 (by assumption) ?_
  case hh2_2 => (intro wq hSw; (try dsimp only at hSw); go_simp; (try (with_reducible rfl)))
  go_frame
  refine wpAnyH_ready (rs := [3]) (by kernel_rfl) (by simp) ?_
  refine AllReadyH.cons rfl (fun K hK => ?_) AllReadyH.nil
  go_simp
  refine (HNm.out _).mono ?_; rintro en w3 ⟨rfl, hb3⟩; have hb23 := hb2.drew.trans (hb3.mono hb2.size)
  go_wp2_with fail
  refine hK.out _ _ (HRows.out _ hb23) (fun hHeld => ?_)
  clear hK K
  try go_frame
  refine wpAnyH_ready (rs := [4]) (by kernel_rfl) (by simp) ?_
  refine AllReadyH.cons rfl (fun K hK => ?_) AllReadyH.nil
  go_simp
  refine (HSn.out _ (Nat.le_trans hbW.size hb23.size)).mono ?_; rintro en w4 ⟨x4, rfl, hQ4, hb4⟩; have hb24 := hb23.trans (hb4.mono hb23.size)
  go_wp2_with fail
  refine hK.out _ _ (HRows.out _ hb24) (fun hHeld => ?_)
  clear hK K
  try go_frame
  refine wpAnyH_takeD (some 14) (i := 5) (v := ?vh2_5) rfl rfl (by kernel_rfl) (by kernel_rfl) (by kernel_rfl) (fun _ _ _ h => h) (by rfl) ?hh2_5 (by assumption) ?_
  case hh2_5 => (intro wq hSw; (try dsimp only at hSw); go_simp; (try (with_reducible rfl)))
  go_frame
  refine wpAnyH_takeD (some 20) (i := 6) (v := ?vh2_6) rfl rfl (by kernel_rfl) (by kernel_rfl) (by kernel_rfl) (fun _ _ _ h => h) (by rfl) ?hh2_6 (by assumption) ?_
  case hh2_6 => (intro wq hSw; (try dsimp only at hSw); go_simp; (try (with_reducible rfl)))
  go_frame
  refine wpAnyH_takeD (some 21) (i := 7) (v := ?vh2_7) rfl rfl (by kernel_rfl) (by kernel_rfl) (by kernel_rfl) (fun _ _ _ h => h) (by rfl) ?hh2_7 (by assumption) ?_
  case hh2_7 => (intro wq hSw; (try dsimp only at hSw); go_simp; (try (with_reducible rfl)))
  go_frame
  refine wpAnyH_takeD (some 8) (i := 8) (v := ?vh2_8) rfl rfl (by kernel_rfl) (by kernel_rfl) (by kernel_rfl) (fun _ _ _ h => h) (by rfl) ?hh2_8 (by assumption) ?_
  case hh2_8 => (intro wq hSw; (try dsimp only at hSw); go_simp; (try (with_reducible rfl)))
  go_frame
  refine wpAnyH_takeD (some 9) (i := 9) (v := ?vh2_9) rfl rfl (by kernel_rfl) (by kernel_rfl) (by kernel_rfl) (fun _ _ _ h => h) (by rfl) ?hh2_9 (by assumption) ?_
  case hh2_9 => (intro wq hSw; (try dsimp only at hSw); go_simp; (try (with_reducible rfl)))
  go_frame
  refine wpAnyH_done (by kernel_rfl) ?_ _
  refine NoPanic.normal ?_
  have HBr4 := Lib.hid (HBr.out.below hb24 HBr.out.lt)
  have hbw4 := hbW.trans (hb24.mono hbW.size)
  obtain ⟨_, y4⟩ := HRows.out _ hb24
  cases ok with
  | false =>
    go_wp2_with (refine wpList_store_blk rfl 34 (.tmp 6) (.tmp 24) rfl r zeroSc rfl rfl 34 zeroSc HBr4.out rfl size_sg (fun u hu => one_zs hu) ?_; intro w5 hR5 hg5 hsz5)
    exact bodyPost_ret (results_row_tmp (g := r) (cs := zeroSc) rfl _ _ _ _ _ rfl hR5 Tryz.underlying34 rfl size_sg) rfl ⟨zeroSc, rfl, HNo.out (by trivial) _, hbw4.grown hg5 hbw4.size (by rintro j ⟨⟩; omega)⟩
  | true =>
    obtain ⟨sg, A4, c4, rfl, hG4⟩ := HYes.out rfl _ _ hQ4
    have HG4 := Lib.hid (hG4 · r 34 zeroSc HBr4.out (by decide))
    clear hG4
    go_wp2_with (first
      | (refine Great.wpList_readTo rfl (some 27) rfl (Sg.mk v sg A4 c4).val (run_sgB v sg A4 c4 (.tmp 25) (.tmp 26) rfl rfl rfl _) ?_)
      | (refine wpList_store_blk rfl 34 (.tmp 6) (.tmp 27) rfl r (Sg.mk v sg A4 c4).cells rfl rfl 34 zeroSc HBr4.out (by rw [Sg.size_cells]; rfl) (by rw [Sg.size_cells]; exact size_sg) (fun u hu => one_sg _ hu) ?_; intro w5 hR5 hg5 hsz5))
    exact bodyPost_ret (results_row_tmp (g := r) (cs := (Sg.mk v sg A4 c4).cells) rfl _ _ _ _ _ rfl hR5 Tryz.underlying34 rfl (by rw [Sg.size_cells]; exact size_sg)) rfl ⟨_, rfl, HG4.out _ hg5, hbw4.grown hg5 hbw4.size (by rintro j ⟨⟩; omega)⟩

set_option maxRecDepth 100000 in
set_option maxHeartbeats 2000000 in
theorem rsign6_bad (s : Nm) (leaf : Int) (v : Vt) (w : World) (hv : v.ok) (hy : ¬ ValidP v) : Calls Tryz.prog 18 #[s.val, .int .i64 leaf, v.val] w (SgNo w) := by
  obtain ⟨W, hW⟩ : ∃ W, W = ((w.alloc (.cells s.cells 29)).alloc (.cells v.cells 31)).alloc (.cells zeroSc 34) := ⟨_, rfl⟩
  have hbW : Below w.heap.size w W := by rw [hW]; exact (((Below.refl _ _).alloc (Nat.le_refl _) _).alloc (by simp) _).alloc (by simp; omega) _
  have r2 : rowAt W (w.heap.size + 1) 0 22 = some v.cells := by
    rw [hW]
    have := (Blk.new (w.alloc (.cells s.cells 29)) 31 v.cells).alloc (.cells zeroSc 34)
    simpa using this.row 22 rfl
  have HBr : Hid (Blk W (w.heap.size + 2) 34 zeroSc) := by
    unfold Hid; rw [hW]
    have := Blk.new ((w.alloc (.cells s.cells 29)).alloc (.cells v.cells 31)) 34 zeroSc
    simpa using this
  have HVa : Hid (∀ V, Calls Tryz.prog 51 #[v.val] V fun e w' => e = .returned (.bool false) ∧ Below V.heap.size V w') := fun V => rvalid_no v V hv hy
  obtain ⟨r, hr⟩ : ∃ r, r = w.heap.size + 2 := ⟨_, rfl⟩
  obtain ⟨q, hq⟩ : ∃ q, q = w.heap.size + 1 := ⟨_, rfl⟩
  rw [← hr] at HBr
  rw [← hq] at r2
  have hrw : w.heap.size ≤ r := by omega
  go_enter Tryz.func18, Tryz.ntmps18
  go_upto_region 1 with fail
  rw [← hW, ← hr, ← hq]
  clear hW hr hq
  go_wp2_with (first
    | (go_at_call 51; refine (HVa.out _).mono ?_; rintro en w2 ⟨rfl, hb2⟩; have HBr4 := Lib.hid (HBr.out.below hb2 HBr.out.lt))
    | (refine wpList_store_blk rfl 34 (.tmp 6) (.tmp 13) rfl r zeroSc rfl rfl 34 zeroSc HBr4.out rfl size_sg (fun u hu => one_zs hu) ?_; intro w5 hR5 hg5 hsz5))
  have hbw4 := hbW.trans (hb2.mono hbW.size)
  exact bodyPost_ret (results_row_tmp (g := r) (cs := zeroSc) rfl _ _ _ _ _ rfl hR5 Tryz.underlying34 rfl size_sg) rfl ⟨rfl, hbw4.grown hg5 hbw4.size (by rintro j ⟨⟩; omega)⟩

/-- The reference's Sign of a valid vote with a leaf of the key. -/
theorem rsign6_yes (s : Nm) (leaf : Nat) (v : Vt) (w : World) (hv : v.ok) (hl : leaf < 1024) (hy : ValidP v) : Calls Tryz.prog 18 #[s.val, .int .i64 (leaf : Int), v.val] w (SgnG (SgG w.heap.size v (sigF s leaf (nameF v))) true w) := by
  have h370 : (sigF s leaf (nameF v)).length = 370 := sigF_len _ _ _
  refine rsign6_core s leaf v w true (fun x V => ∃ A c, x = .slice A 370 c ∧ V.ownsRow w.heap.size 5 1 (.slice A 370 c) 370 ((sigF s leaf (nameF v)).map B)) hv hy (fun W hs => ?_) _ (fun h => by cases h) (fun _ x V hx => ?_)
  · refine (rsign1_core (fun x ok V => ok = true ∧ ∃ A c, x = .slice A 370 c ∧ V.ownsRow W.heap.size 5 1 (.slice A 370 c) 370 ((sigF s leaf (nameF v)).map B)) s (nameF v) leaf W (fun h b o c Z h1 h2 h3 hB hT => ?_)).mono ?_
    · refine (rksign_any s (nameF v) h leaf b o c Z hB hT hl).mono ?_
      rintro e w' ⟨A, c', rfl, ho, hb⟩
      exact ⟨_, true, rfl, ⟨rfl, A, c', rfl, own_base ho h3⟩, hb⟩
    · rintro e w' ⟨x, ok, rfl, ⟨rfl, A, c, rfl, ho⟩, hb⟩
      exact ⟨_, rfl, ⟨A, c, rfl, own_base ho hs⟩, hb⟩
  · obtain ⟨A, c, rfl, ho⟩ := hx
    refine ⟨sigF s leaf (nameF v), A, c, by rw [h370], fun V' k ty cs0 hB ht hg => ⟨A, c, rfl, ?_⟩⟩
    rw [h370]
    exact ho.kept hg (.inr fun e => own_ne ho hB ht e.symm)
theorem rsign6_not (s : Nm) (leaf : Int) (v : Vt) (w : World) (hv : v.ok) (hn : ¬ ValidP v ∨ leaf < 0 ∨ 1024 ≤ leaf) : Calls Tryz.prog 18 #[s.val, .int .i64 leaf, v.val] w (SgNo w) := by
  by_cases hy : ValidP v
  · have hl := hn.resolve_left (fun h => h hy)
    have h : Calls Tryz.prog 18 #[s.val, .int .i64 leaf, v.val] w (SgnG (fun cs _ => cs = zeroSc) false w) := by
      refine rsign6_core s leaf v w false (fun _ _ => True) hv hy (fun W hs => ?_) _ (fun _ _ => rfl) (fun h => by cases h)
      refine (rsign1_core (fun x ok V => ok = false) s (nameF v) leaf W (fun h b o c Z h1 h2 h3 hB hT => ?_)).mono ?_
      · refine (rksign_no (nameF v) _ leaf Z hl).mono ?_
        rintro e w' ⟨rfl, hb⟩
        exact ⟨_, false, rfl, rfl, hb.mono (Nat.le_of_lt h2)⟩
      · rintro e w' ⟨x, ok, rfl, rfl, hb⟩
        exact ⟨x, rfl, trivial, hb⟩
    refine h.mono ?_
    rintro e w' ⟨cs, rfl, rfl, hb⟩
    exact ⟨rfl, hb⟩
  · exact rsign6_bad s leaf v w hv hy
end Go.Proofs.YthmecidpjlaonaaGreat
