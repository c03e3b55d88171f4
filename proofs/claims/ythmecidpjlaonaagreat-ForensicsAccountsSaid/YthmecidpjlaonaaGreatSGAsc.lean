/-
  The comparison by which accept.ascending sorts tells the order of two votes of its list as it stands. No condition.
  accept.ascending returns votes of its list above the parent, in memory of its own. Condition: the list lies in memory below the call and has at most a million elements.
  accept.Accepted returns votes of its list above the parent, each allowed by those ahead of it. Conditions: valid votes of the phases of one slot of a member; they lie in memory below the call.
-/
import Derived.Test.YthmecidpjlaonaaGreatSGPd6
import Derived.Test.YthmecidpjlaonaaGreatSGLess
import Derived.Test.YthmecidpjlaonaaGreatSGVtR
import Derived.RangeFuncBox
import Derived.Deep.DeepCutAuto
import Derived.Test.YthmecidpjlaonaaGreatSGJus4
import Derived.ScopeJumps
namespace Go.Proofs.YthmecidpjlaonaaGreat
open Go.RowKit
attribute [local go_sem ↓] Go.wp_at_zero Go.wp_at_succ loadNm loadVt loadSg loadEv
attribute [local go_sem] runNm runVt runSg runEv pickRow_some rowAt_drew rowAt_drewN
theorem RowE.vt {T : List Value} {w0 W : World} {g i : Nat} {l : List Vt} {x : Vt} (h : RowE ⟨vtc, T⟩ 31 w0 g l W) (hx : l[i]? = some x) : rowAt W g (i * 22) 22 = some x.cells := by
  refine rowAt_of (fun j u hu => ?_) rfl
  have := row_cell (c := ⟨vtc, T⟩) (m := 22) (fun _ => rfl) h.blk i j x u hx (by simpa using hu)
  rwa [Nat.zero_add] at this

set_option maxRecDepth 100000 in
set_option maxHeartbeats 2000000 in
theorem ascLess_on (T : List Value) (B g n c : Nat) (l0 : List Vt) (w0 : World) (hB : Blk w0 B 65 #[.slice (some ⟨g, 0, none⟩) n c]) (hne : B ≠ g) (hn : l0.length = n) :
    LessE ⟨vtc, T⟩ 31 w0 g l0 lessV 172 #[.pointer (some ⟨B, 0, none⟩)] := by
  intro W l i j x y hr hp hx hy
  have hi : i < n := by rw [← hn, ← hp.length_eq]; exact (List.getElem?_eq_some_iff.1 hx).1
  have hj : j < n := by rw [← hn, ← hp.length_eq]; exact (List.getElem?_eq_some_iff.1 hy).1
  have hc0 : W.cell? ⟨B, 0, none⟩ = some (.slice (some ⟨g, 0, none⟩) n c) := (hr.box hB hne).cell 0
  have HRows : Hid (∀ V, Below W.heap.size W V → V.cell? ⟨B, 0, none⟩ = some (.slice (some ⟨g, 0, none⟩) n c) ∧ rowAt V g (i * 22) 22 = some x.cells ∧ rowAt V g (j * 22) 22 = some y.cells) :=
    fun V hV => ⟨(hV.cell (p := ⟨B, 0, none⟩) (hr.box hB hne).lt).trans hc0, rowAt_below (hr.vt hx) hV hr.blk.lt, rowAt_below (hr.vt hy) hV hr.blk.lt⟩
  have HL : Hid (∀ V, Below W.heap.size W V → Calls Tryz.prog 46 #[x.val, y.val] V (BoolPost V (lessV x y))) :=
    fun V hV => vless_any x y V
  obtain ⟨r, hrr⟩ : ∃ r, r = lessV x y := ⟨_, rfl⟩
  rw [← hrr] at HL ⊢
  clear hrr hc0 hr hp hx hy hB hn
  have hbw : Below W.heap.size W W := Below.refl _ _
  show Calls Tryz.prog 172 #[.int .i64 (i : Int), .int .i64 (j : Int), .pointer (some ⟨B, 0, none⟩)] W _
  go_enter Tryz.func172, Tryz.ntmps172
  go_upto_region 1 with fail
  refine wp_region_noPanic ?_
  refine wp_region_held_drew (S := fun w' => w'.cell? ⟨B, 0, none⟩ = some (.slice (some ⟨g, 0, none⟩) n c) ∧ rowAt w' g (i * 22) 22 = some x.cells ∧ rowAt w' g (j * 22) 22 = some y.cells) (by kernel_rfl) (HRows.out _ hbw.drew) (fun hHeld => ?_)
  refine wpAnyH_takeD (some 6) (i := 0) (v := ?vh1_0) rfl rfl (by kernel_rfl) (by kernel_rfl) (by kernel_rfl) (fun _ _ _ h => h) (by rfl) ?hh1_0 (by assumption) ?_
  case hh1_0 => (intro wq hSw; (try dsimp only at hSw); go_simp; (try (with_reducible rfl)))
  go_frame
  refine wpAnyH_takeD (some 7) (i := 1) (v := ?vh1_1) rfl rfl (by kernel_rfl) (by kernel_rfl) (by kernel_rfl) (fun _ _ _ h => h) (by rfl) ?hh1_1 (by assumption) ?_
  case hh1_1 => (intro wq hSw; (try dsimp only at hSw); go_simp; (try (with_reducible rfl)))
  go_frame
  refine wpAnyH_takeD (some 8) (i := 2) (v := ?vh1_2) rfl rfl (by kernel_rfl) (by kernel_rfl) (by kernel_rfl) (fun _ _ _ h => h) (by rfl) ?hh1_2 (by assumption) ?_
  case hh1_2 => (intro wq hSw; (try dsimp only at hSw); go_simp; (try (with_reducible rfl)))
  go_frame
  refine wpAnyH_takeD (some 9) (i := 3) (v := ?vh1_3) rfl rfl (by kernel_rfl) (by kernel_rfl) (by kernel_rfl) (fun _ _ _ h => h) (by rfl) ?hh1_3 (by assumption) ?_
  case hh1_3 => (intro wq hSw; (try dsimp only at hSw); go_simp; (try (with_reducible rfl)))
  go_frame
  refine wpAnyH_takeD (some 10) (i := 4) (v := ?vh1_4) rfl rfl (by kernel_rfl) (by kernel_rfl) (by kernel_rfl) (fun _ _ _ h => h) (by rfl) ?hh1_4 (by assumption) ?_
  case hh1_4 => (intro wq hSw; (try dsimp only at hSw); go_simp; (try (with_reducible rfl)))
  go_frame
  refine wpAnyH_takeD (some 11) (i := 5) (v := ?vh1_5) rfl rfl (by kernel_rfl) (by kernel_rfl) (by kernel_rfl) (fun _ _ _ h => h) (by rfl) ?hh1_5 (by assumption) ?_
  case hh1_5 => (intro wq hSw; (try dsimp only at hSw); go_simp; (try (with_reducible rfl)))
  go_frame
  refine wpAnyH_takeD (some 12) (i := 6) (v := ?vh1_6) rfl rfl (by kernel_rfl) (by kernel_rfl) (by kernel_rfl) (fun _ _ _ h => h) (by rfl) ?hh1_6 (by assumption) ?_
  case hh1_6 => (intro wq hSw; (try dsimp only at hSw); go_simp; (try (with_reducible rfl)))
  go_frame
  refine wpAnyH_takeD (some 13) (i := 7) (v := ?vh1_7) rfl rfl (by kernel_rfl) (by kernel_rfl) (by kernel_rfl) (fun _ _ _ h => h) (by rfl) ?hh1_7 (by assumption) ?_
  case hh1_7 => (intro wq hSw; (try dsimp only at hSw); go_simp; (try (with_reducible rfl)))
  go_frame
  refine wpAnyH_ready (rs := [8]) (by kernel_rfl) (by simp) ?_
  refine AllReadyH.cons rfl (fun K hK => ?_) AllReadyH.nil
  go_simp
  refine (HL.out _ hbw.drew).mono ?_; rintro en w2 ⟨rfl, hb2⟩; have hbw2 := hbw.drew.trans (hb2.mono hbw.size)
  go_wp2_with fail
  refine hK.out _ _ (HRows.out _ hbw2) (fun hHeld => ?_)
  clear hK K
  try go_frame
  refine wpAnyH_takeD (some 5) (i := 9) (v := ?vh1_9) rfl rfl (by kernel_rfl) (by kernel_rfl) (by kernel_rfl) (fun _ _ _ h => h) (by rfl) ?hh1_9 (by assumption) ?_
  case hh1_9 => (intro wq hSw; (try dsimp only at hSw); go_simp; (try (with_reducible rfl)))
  go_frame
  refine wpAnyH_done (by kernel_rfl) ?_ _
  refine NoPanic.normal ?_
  go_wp2
  go_ret
  exact ⟨rfl, hbw2⟩
end Go.Proofs.YthmecidpjlaonaaGreat
namespace Go.Proofs.YthmecidpjlaonaaGreat
open Go.RowKit Go.Shelf
attribute [local go_sem ↓] Go.wp_at_zero Go.wp_at_succ loadNm loadVt loadSg loadEv
attribute [local go_sem] runNm runVt runSg runEv pickRow_some rowAt_drew rowAt_drewN
noncomputable def vtT : TypeInfo := (Tryz.prog.info? 65).get (by kernel_rfl)
noncomputable def vtE : TypeInfo := (Tryz.prog.info? 31).get (by kernel_rfl)
theorem vtE_k (n : Nat) (h : 2 ≤ n) : Lib.swapperK n vtE 25 = 9 := by
  have a : vtE.hasPointers = false := by kernel_rfl
  have b : vtE.bytes = 64 := by kernel_rfl
  have c0 : (n == 0) = false := by simp; omega
  have c1 : (n == 1) = false := by simp; omega
  unfold Lib.swapperK
  rw [a, b, c0, c1]; rfl
theorem vtT_is : Tryz.prog.info? 65 = some vtT := by kernel_rfl
theorem vtE_is : Tryz.prog.info? 31 = some vtE := by kernel_rfl
theorem vtT_desc : vtT.desc = .slice 31 := by kernel_rfl
theorem vtE_size : vtE.size = 22 := by kernel_rfl
theorem slT_vote : SlT 65 31 22 :=
  ⟨⟨vtT, vtT_is, vtT_desc⟩, by kernel_rfl, ⟨vtE, vtE_is, vtE_size, vtE_k⟩, fun _ => by kernel_rfl, fun _ => by kernel_rfl⟩
instance : Inhabited Vt := ⟨zeroV⟩
theorem enters_asc (args : Array Value) (W : World) : (callFunc 172 args).run Tryz.prog W = .ok (.enter 172 args) W := enters_of Tryz.func172 (by kernel_rfl) rfl args W
/-- A row that is owned: nil, or a block with a tail. -/
theorem own_tail {w : World} {b n : Nat} {e : TypeId} {v : Value} {m : Nat} {xs : List Value} (h : w.ownsRow b e m v n xs) : (v = .slice none 0 0 ∧ n = 0 ∧ xs = []) ∨ ∃ g cap T, v = .slice (some ⟨g, 0, none⟩) n cap ∧ b ≤ g ∧ Blk w g e (xs ++ T).toArray ∧ n ≤ cap := by
  rcases h.2 with ⟨hv, h0⟩ | ⟨g, cap, cur, hv, hg, hh, h1, _, _, ht⟩
  · exact .inl ⟨hv, h0, List.eq_nil_of_length_eq_zero (by rw [h.1, h0, Nat.zero_mul])⟩
  · refine .inr ⟨g, cap, cur.toList.drop (n * m), hv, hg, ?_, h1⟩
    rw [← ht, List.take_append_drop]
    exact hh
/-- Where the gathering stands. -/
def AscRel (l : List Vt) (p : Nm) (w : World) (q pb : Nat) (iv : Value) (wr : World) : Prop :=
  ∃ (i : Nat) (v : Value) (D : List Vt), iv = .int .i64 (i : Int) ∧ i ≤ l.length ∧ D.length ≤ i ∧ (∀ s ∈ D, s ∈ l ∧ s.parent = p) ∧ wr.ownsRow w.heap.size 31 22 v D.length (D.flatMap vtc) ∧ Below w.heap.size w wr ∧ Blk wr q 29 p.cells ∧ Blk wr pb 65 #[v]
/-- Where the thinning stands. -/
def AscThin (D : List Vt) (w3 : World) (v iv : Value) (wr : World) : Prop :=
  ∃ (i : Nat) (O : List Vt), iv = .int .i64 (i : Int) ∧ i ≤ D.length ∧ O.length ≤ i ∧ (∀ s ∈ O, s ∈ D) ∧ wr.ownsRow w3.heap.size 31 22 v O.length (O.flatMap vtc) ∧ Below w3.heap.size w3 wr
/-- What the sort leaves. -/
def AscMid (D : List Vt) (w : World) (pb : Nat) (v : Value) (e : Ending) (w3 : World) : Prop :=
  e = .returned (.tuple #[]) ∧ Blk w3 pb 65 #[v] ∧ Below w.heap.size w w3 ∧ ∃ (l3 : List Vt) (A : Option Addr) (c : Nat), v = .slice A l3.length c ∧ l3.Perm D ∧ Rd w3 w3.heap.size A (l3.flatMap vtc)
set_option maxRecDepth 100000 in
set_option maxHeartbeats 8000000 in
theorem asc_mid (w W : World) (pb : Nat) (v : Value) (D : List Vt) (hown : W.ownsRow w.heap.size 31 22 v D.length (D.flatMap vtc)) (hb : Below w.heap.size w W) (hpb : Blk W pb 65 #[v]) (hsm : D.length ≤ 1000000) :
    Calls Tryz.prog 111 #[.iface 65 v, .func (.func 172) #[] #[.pointer (some ⟨pb, 0, none⟩)]] W (AscMid D w pb v) := by
  rcases own_tail hown with ⟨rfl, h0, _⟩ | ⟨g, cap, T, rfl, hg, hblk, hcap⟩
  · refine (slice_nil slT_vote 0 W).mono ?_
    rintro e w3 ⟨rfl, hb3⟩
    have hD : D = [] := List.eq_nil_of_length_eq_zero h0
    subst hD
    exact ⟨rfl, hpb.below hb3 hpb.lt, hb.trans (hb3.mono hb.size), [], none, 0, rfl, List.Perm.refl _, Rd.nil⟩
  · have hne : pb ≠ g := by
      intro e
      subst e
      unfold Blk at hpb hblk
      rw [hpb] at hblk
      injection hblk with hh
      injection hh with _ ht
      exact absurd ht (by decide)
    refine (slice_any slT_vote ⟨vtc, T⟩ (fun _ => rfl) (by decide) (fun x v hv => one_vt x hv) (fun args W => enters_asc args W) D g D.length cap W (ascLess_on T pb g D.length cap D W hpb hne rfl) hblk rfl hsm).mono ?_
    rintro e w3 ⟨rfl, l3, hr3, hp3⟩
    refine ⟨rfl, hr3.box hpb hne, hb.grown hr3.kept hb.size (fun k hk => by injection hk with hk; subst hk; exact hg), l3, _, cap, by rw [hp3.length_eq], hp3, ?_⟩
    refine Rd.mk hr3.blk.lt fun j u hu => ?_
    rw [hr3.blk.cell, Nat.zero_add, List.getElem?_toArray]
    show (l3.flatMap vtc ++ T)[j]? = some u
    rw [List.getElem?_append_left (List.getElem?_eq_some_iff.1 hu).1, hu]

set_option maxRecDepth 100000 in
set_option maxHeartbeats 8000000 in
theorem asc_any (p : Nm) (A : Option Addr) (n c : Nat) (l : List Vt) (w : World) (hn : l.length = n) (hr : Rd w w.heap.size A (l.flatMap vtc)) (hsm : n ≤ 1000000) :
    Calls Tryz.prog 141 #[p.val, .slice A n c] w fun e w' => ∃ (v : Value) (O : List Vt), e = .returned v ∧ (∀ s ∈ O, s ∈ l ∧ s.parent = p) ∧ O.length ≤ n ∧ w'.ownsRow w.heap.size 31 22 v O.length (O.flatMap vtc) ∧ Below w.heap.size w w' := by
  have HN := Lib.hid hn
  have HR := Lib.hid hr
  have HMid := Lib.hid (fun W pb v D h1 h2 h3 h4 => asc_mid w W pb v D h1 h2 h3 h4)
  clear hn hr
  go_enter Tryz.func141, Tryz.ntmps141
  go_upto_region 2 with fail
  obtain ⟨w1, hw1⟩ : ∃ w1, w1 = (w.alloc (.cells p.cells 29)).alloc (.cells #[.slice none 0 0] 65) := ⟨_, rfl⟩
  rw [← hw1]
  have hbw1 : Below w.heap.size w w1 := by rw [hw1]; exact ((Below.refl _ _).alloc (Nat.le_refl _) _).alloc (by simp) _
  have HB1 : Hid (Blk w1 w.heap.size 29 p.cells) := by
    unfold Hid
    rw [hw1]; exact (Blk.new w _ _).alloc _
  have HB2 : Hid (Blk w1 (w.heap.size + 1) 65 #[.slice none 0 0]) := by
    unfold Hid
    rw [hw1]
    have := Blk.new (w.alloc (.cells p.cells 29)) 65 #[.slice none 0 0]
    simpa using this
  clear hw1
  obtain ⟨q, hq⟩ : ∃ q, q = w.heap.size := ⟨_, rfl⟩
  obtain ⟨pb, hpb⟩ : ∃ pb, pb = w.heap.size + 1 := ⟨_, rfl⟩
  rw [← hpb, ← hq]
  rw [← hpb] at HB2
  rw [← hq] at HB1
  have hqp : q ≠ pb := by omega
  have hqw : w.heap.size ≤ q := by omega
  have hpw : w.heap.size ≤ pb := by omega
  clear hq hpb
  go_wp2
  go_loopw [13] (fun iv wr => AscRel l p w q pb iv wr) (fun iv _ => n - (intOf iv).toNat)
  case atStart => exact ⟨0, _, [], rfl, Nat.zero_le _, Nat.zero_le _, fun s hs => (List.not_mem_nil hs).elim, ⟨by simp, .inl ⟨rfl, rfl⟩⟩, hbw1, HB1.out, HB2.out⟩
  case round =>
    clear hbw1 HB1 HB2
    obtain ⟨i, v, D, rfl, hin, hDi, hD, hown, hbw, hBq, hBp⟩ := hrel
    rw [HN.out] at hin
    have HD := Lib.hid hD
    have HOwn := Lib.hid hown
    have HBq := Lib.hid hBq
    have HBp := Lib.hid hBp
    have y1 : rowAt wr q 0 8 = some p.cells := hBq.row 8 rfl
    have y2 : wr.cell? ⟨pb, 0, none⟩ = some v := hBp.cell 0
    have hqr : q < wr.heap.size := hBq.lt
    have hpr : pb < wr.heap.size := hBp.lt
    clear hD hown hBq hBp
    by_cases hi : i < n
    · have di : decide ((i : Int) < (n : Int)) = true := by simp; omega
      obtain ⟨x, hx⟩ : ∃ x, l[i]? = some x := ⟨_, List.getElem?_eq_getElem (by rw [HN.out]; exact hi)⟩
      obtain ⟨b, o, rfl, hb, hcell⟩ := HR.out.cells (by intro e; have := flat_length vtc 22 l (vtc_len l); rw [e, HN.out] at this; simp at this; omega)
      clear hcell
      have x1 : rowAt wr b (o + i * 22) 22 = some x.cells := (HR.out.below hbw).voteRow hx
      have hxl : x ∈ l := List.mem_of_getElem? hx
      have HXl := Lib.hid hxl
      clear hx hxl
      go_upto_region 5 with (refine wpList_store_blk rfl 31 (.tmp 7) (.tmp 16) rfl wr.heap.size x.cells rfl rfl 31 zeroV.cells (Blk.new wr _ _) (by rfl) (by kernel_rfl) (fun u hu => one_vt x hu) ?_; intro w4 hB4 hg4 hsz4)
      have HOwn4 : Hid (w4.ownsRow w.heap.size 31 22 v D.length (D.flatMap vtc)) := own_kept (HOwn.out.alloc _) hg4 (fun k hk => by
        injection hk with hk
        subst hk
        right
        intro e
        have := (HOwn.out.lt _ e).2
        omega)
      have hbw4 : Below w.heap.size w w4 := (hbw.alloc hbw.size _).grown hg4 (Nat.le_trans hbw.size (by simp)) (fun k hk => by injection hk with hk; subst hk; exact hbw.size)
      have HBq4 : Hid (Blk w4 q 29 p.cells) := (HBq.out.alloc _).kept hg4 (by intro e; injection e with e; omega)
      have HBp4 : Hid (Blk w4 pb 65 #[v]) := (HBp.out.alloc _).kept hg4 (by intro e; injection e with e; omega)
      have hw4 : w4.heap.size = wr.heap.size + 1 := by rw [hsz4]; simp
      obtain ⟨z, hz⟩ : ∃ z, z = wr.heap.size := ⟨_, rfl⟩
      rw [← hz] at hB4 hw4 ⊢
      have x2 : rowAt w4 z 6 8 = some x.parent.cells := x.row_parent hB4
      have x3 : rowAt w4 z 0 22 = some x.cells := hB4.row 22 rfl
      have y3 : rowAt w4 q 0 8 = some p.cells := HBq4.out.row 8 rfl
      have y4 : w4.cell? ⟨pb, 0, none⟩ = some v := HBp4.out.cell 0
      have y5 : w4.frozen? ⟨pb, 0, none⟩ = false := HBp4.out.frozen 0
      clear hB4 hg4 hsz4 x1 y1 y2 hz HOwn HBq HBp hbw hw4
      obtain ⟨k, hk⟩ : ∃ k, k = decide (x.parent = p) := ⟨_, rfl⟩
      have e1 : ∀ W, (Op.equalIn 10000 29 (.agg x.parent.cells) (.agg p.cells)).run Tryz.prog W = .ok k W := fun W => by rw [hk]; exact eqNm x.parent p W 9998
      have HK := Lib.hid hk
      clear hk
      try go_frame
      cases k with
      | false =>
        go_wp2
        go_roundw
        case rel => exact ⟨i + 1, v, D, by go_num, by rw [HN.out]; omega, by omega, HD.out, HOwn4.out, hbw4, HBq4.out, HBp4.out⟩
        case measure => simp [intOf]; omega
      | true =>
        have hxp : x.parent = p := of_decide_eq_true HK.out.symm
        have HXp := Lib.hid hxp
        clear hxp HK
        go_wp2_with ((first
          | (refine wpList_build1 rfl 65 31 (.tmp 22) rfl x.cells rfl Tryz.underlying65 (by kernel_rfl) (by decide) (by decide) ?_)
          | (at_builtin; refine wpList_app rfl (.tmp 21) (.tmp 23) _ rfl w.heap.size 31 (.agg zeroV.cells) 22 64 Tryz.underlying65 info_vote rfl (by decide) v D.length (D.flatMap vtc) rfl ?r0 (w4.heap.size + 1) (some ⟨w4.heap.size, 0, none⟩) 1 1 (vtc x) rfl ?r1 ?r2 ?r3 ?r4 ?r5 ?r6 ?_)))
        case r0 => exact HOwn4.out.alloc _
        case r1 => rfl
        case r2 => exact Rd.mk (by omega) (fun j u hu => by rw [Nat.zero_add, (Blk.new w4 _ _).cell]; simpa using hu)
        case r3 => exact fun u hu => one_vt x hu
        case r4 => omega
        case r5 => unfold maxLen; omega
        case r6 => have := hbw4.size; simp; omega
        intro v3 w3 hown3 hg3 hat3
        have hne3 : some pb ≠ v.ownBlock := own_ne HOwn4.out HBp4.out (by decide)
        have hnq3 : some q ≠ v.ownBlock := own_ne HOwn4.out HBq4.out (by decide)
        have HBq3 : Hid (Blk w3 q 29 p.cells) := (HBq4.out.alloc _).kept hg3 hnq3
        have HBp3 : Hid (Blk w3 pb 65 #[v]) := (HBp4.out.alloc _).kept hg3 hne3
        have hne4 : some pb ≠ v3.ownBlock := own_ne hown3 HBp3.out (by decide)
        have hbw3 : Below w.heap.size w w3 := below_own (hbw4.alloc hbw4.size _) (HOwn4.out.alloc _) hg3
        have y6 : w3.cell? ⟨pb, 0, none⟩ = some v := HBp3.out.cell 0
        have y7 : w3.frozen? ⟨pb, 0, none⟩ = false := HBp3.out.frozen 0
        obtain ⟨g3, cap3, rfl⟩ := ownsRow_succ hown3
        have HOwn3 := Lib.hid hown3
        clear hown3 hg3 hat3 hne3 hnq3
        have HNe := Lib.hid hne4
        clear hne4
        go_wp2
        go_roundw
        case rel =>
          refine ⟨i + 1, _, D ++ [x], by go_num, by rw [HN.out]; omega, by rw [List.length_append]; simp; omega, ?_, ?_, hbw3.setCell hpw _, HBq3.out.far hqp _, HBp3.out.put 0 _⟩
          · intro s hs
            rcases List.mem_append.1 hs with hs | hs
            · exact HD.out s hs
            · rw [List.mem_singleton.1 hs]; exact ⟨HXl.out, HXp.out⟩
          · have h := own_kept HOwn3.out (one_put (p := ⟨pb, 0, none⟩) (one_refl w3 pb) rfl (.slice (some ⟨g3, 0, none⟩) (D.length + 1) cap3)) (fun k hk => by injection hk with hk; subst hk; exact .inr (fun e => HNe.out e.symm))
            rw [List.length_append, List.flatMap_append]
            simpa using h
        case measure => simp [intOf]; omega
    · have di : decide ((i : Int) < (n : Int)) = false := by simp; omega
      have hDl : D.length ≤ n := by omega
      have hDs : D.length ≤ 1000000 := by omega
      have HSort := Lib.hid (HMid.out wr pb v D HOwn.out hbw HBp.out hDs)
      clear HOwn HBq y1 HMid
      go_wp2_with fail
      refine HSort.out.mono ?_
      rintro en w3 ⟨rfl, hB3, hb3, l3, A3, c3, rfl, hp3, hr3⟩
      obtain ⟨n3, hn3⟩ : ∃ n3, l3.length = n3 := ⟨_, rfl⟩
      rw [hn3] at hB3 ⊢
      have HB3 := Lib.hid hB3
      have HR3 := Lib.hid hr3
      have HP3 := Lib.hid hp3
      have HL3 := Lib.hid hn3
      have hn3n : n3 ≤ n := by rw [← hn3, hp3.length_eq]; exact hDl
      have z1 : w3.cell? ⟨pb, 0, none⟩ = some (.slice A3 n3 c3) := hB3.cell 0
      have hp3' : pb < w3.heap.size := hB3.lt
      clear hB3 hr3 hp3 hn3 HSort y2 HBp
      go_wp2
      go_loopw [8, 32] (fun v iv wr => AscThin l3 w3 v iv wr) (fun _ iv _ => n3 - (intOf iv).toNat)
      case atStart => exact ⟨0, [], rfl, Nat.zero_le _, Nat.zero_le _, fun s hs => (List.not_mem_nil hs).elim, ⟨by simp, .inl ⟨rfl, rfl⟩⟩, Below.refl _ _⟩
      case round =>
        clear z1
        obtain ⟨i2, O, rfl, hin2, hOi, hO, hownv, hbr⟩ := hrel
        rw [HL3.out] at hin2
        have HO := Lib.hid hO
        have HOv := Lib.hid hownv
        have hOs : O.length ≤ 1000000 := by omega
        clear hO hownv
        by_cases hi2 : i2 < n3
        · have di2 : decide ((i2 : Int) < (n3 : Int)) = true := by simp; omega
          obtain ⟨x, hx⟩ : ∃ x, l3[i2]? = some x := ⟨_, List.getElem?_eq_getElem (by rw [HL3.out]; exact hi2)⟩
          obtain ⟨b3, o3, rfl, hb3', hcell⟩ := HR3.out.cells (by intro e; have := flat_length vtc 22 l3 (vtc_len l3); rw [e, HL3.out] at this; simp at this; omega)
          clear hcell
          have x1 : rowAt wr b3 (o3 + i2 * 22) 22 = some x.cells := (HR3.out.below hbr).voteRow hx
          have HXl := Lib.hid (List.mem_of_getElem? hx)
          clear hx
          go_upto_region 13 with (refine wpList_store_blk rfl 31 (.tmp 10) (.tmp 36) rfl wr.heap.size x.cells rfl rfl 31 zeroV.cells (Blk.new wr _ _) (by rfl) (by kernel_rfl) (fun u hu => one_vt x hu) ?_; intro w4 hB4 hg4 hsz4)
          have HOv4 : Hid (w4.ownsRow w3.heap.size 31 22 u8 O.length (O.flatMap vtc)) := own_kept (HOv.out.alloc _) hg4 (fun k hk => by
            injection hk with hk
            subst hk
            right
            intro e
            have := (HOv.out.lt _ e).2
            omega)
          have hbr4 : Below w3.heap.size w3 w4 := (hbr.alloc hbr.size _).grown hg4 (Nat.le_trans hbr.size (by simp)) (fun k hk => by injection hk with hk; subst hk; exact hbr.size)
          have hw4 : w4.heap.size = wr.heap.size + 1 := by rw [hsz4]; simp
          have HBx := Lib.hid hB4
          obtain ⟨z, hz⟩ : ∃ z, z = wr.heap.size := ⟨_, rfl⟩
          rw [← hz] at HBx hw4 ⊢
          have hz4 : z < w4.heap.size := by omega
          clear hB4 hg4 hsz4 x1 hz HOv hbr
          go_frame
          go_cut [47] (fun bv wx => ∃ r : Bool, bv = .bool r ∧ ∃ k, wx = w4.drewN k)
          case first =>
            by_cases h0 : i2 = 0
            · subst h0
              refine wp_region_noPanic ?_
              refine wp_region_held_drew (S := fun _ => True) (by kernel_rfl) (trivial) (fun hHeld => ?_)
              refine wpAnyH_takeD (some 37) (i := 0) (v := ?vh1_0) rfl rfl (by kernel_rfl) (by kernel_rfl) (by kernel_rfl) (fun _ _ _ h => h) (by rfl) ?hh1_0 (by assumption) ?_
              case hh1_0 => (intro wq hSw; (try dsimp only at hSw); go_simp; (try (with_reducible rfl)))
              go_frame
              refine wpAnyH_takeD (some 38) (i := 1) (v := ?vh1_1) rfl rfl (by kernel_rfl) (by kernel_rfl) (by kernel_rfl) (fun _ _ _ h => h) (by rfl) ?hh1_1 (by assumption) ?_
              case hh1_1 => (intro wq hSw; (try dsimp only at hSw); go_simp; (try (with_reducible rfl)))
              go_frame
              refine wpAnyH_takeD (some 39) (i := 2) (v := ?vh1_2) rfl rfl (by kernel_rfl) (by kernel_rfl) (by kernel_rfl) (fun _ _ _ h => h) (by rfl) ?hh1_2 (by assumption) ?_
              case hh1_2 => (intro wq hSw; (try dsimp only at hSw); go_simp; (try (with_reducible rfl)))
              go_frame
              refine wpAnyH_skipD (some 40) (i := 3) rfl rfl (by kernel_rfl) (by kernel_rfl) (by kernel_rfl) (fun _ _ _ h => h) (by rfl) (by assumption) ?_
              go_frame
              refine wpAnyH_skipD (some 41) (i := 4) rfl rfl (by kernel_rfl) (by kernel_rfl) (by kernel_rfl) (fun _ _ _ h => h) (by rfl) (by assumption) ?_
              go_frame
              refine wpAnyH_skipD (some 42) (i := 5) rfl rfl (by kernel_rfl) (by kernel_rfl) (by kernel_rfl) (fun _ _ _ h => h) (by rfl) (by assumption) ?_
              go_frame
              refine wpAnyH_skipD (some 43) (i := 6) rfl rfl (by kernel_rfl) (by kernel_rfl) (by kernel_rfl) (fun _ _ _ h => h) (by rfl) (by assumption) ?_
              go_frame
              refine wpAnyH_skipD (some 44) (i := 7) rfl rfl (by kernel_rfl) (by kernel_rfl) (by kernel_rfl) (fun _ _ _ h => h) (by rfl) (by assumption) ?_
              go_frame
              refine wpAnyH_skipD (some 45) (i := 8) rfl rfl (by kernel_rfl) (by kernel_rfl) (by kernel_rfl) (fun _ _ _ h => h) (by rfl) (by assumption) ?_
              go_frame
              refine wpAnyH_skipD (some 46) (i := 9) rfl rfl (by kernel_rfl) (by kernel_rfl) (by kernel_rfl) (fun _ _ _ h => h) (by rfl) (by assumption) ?_
              go_frame
              refine wpAnyH_takeD (some 47) (i := 10) (v := ?vh1_10) rfl rfl (by kernel_rfl) (by kernel_rfl) (by kernel_rfl) (fun _ _ _ h => h) (by rfl) ?hh1_10 (by assumption) ?_
              case hh1_10 => (intro wq hSw; (try dsimp only at hSw); go_simp; (try (with_reducible rfl)))
              go_frame
              refine wpAnyH_done (by kernel_rfl) ?_ _
              refine NoPanic.normal ?_
              go_wp2_with fail
              go_meet
              exact ⟨_, rfl, 1, rfl⟩
            · have d0 : decide ((i2 : Int) = 0) = false := by simp; omega
              have d0b : ((i2 : Int) == 0) = false := by simp; omega
              obtain ⟨y, hy⟩ : ∃ y, l3[i2 - 1]? = some y := ⟨_, List.getElem?_eq_getElem (by rw [HL3.out]; omega)⟩
              obtain ⟨j, hj⟩ : ∃ j, j = i2 - 1 := ⟨_, rfl⟩
              rw [← hj] at hy
              have hji : (i2 : Int) - 1 = (j : Int) := by omega
              have hjn : j < n3 := by omega
              have hwj : IntKind.i64.wrap (j : Int) = (j : Int) := IntWalk.i64_in _ (by omega)
              clear hj
              obtain ⟨k, hk⟩ : ∃ k, k = decide (x = y) := ⟨_, rfl⟩
              have e1 : ∀ W, (Op.equalIn 10000 31 (.agg x.cells) (.agg y.cells)).run Tryz.prog W = .ok k W := fun W => by rw [hk]; exact eqVt x y W
              have HYy := Lib.hid hy
              clear hk hy
              have HRows : Hid (∀ V, Below w4.heap.size w4 V → rowAt V z 0 22 = some x.cells ∧ V.cell? ⟨pb, 0, none⟩ = some (.slice (some ⟨b3, o3, none⟩) n3 c3) ∧ rowAt V b3 (o3 + j * 22) 22 = some y.cells) := fun V hV =>
                ⟨(HBx.out.below hV hz4).row 22 rfl, ((hbr4.trans (hV.mono hbr4.size)).cell (p := ⟨pb, 0, none⟩) hp3').trans (HB3.out.cell 0), (HR3.out.below (hbr4.trans (hV.mono hbr4.size))).voteRow HYy.out⟩
              have hbx : Below w4.heap.size w4 w4 := Below.refl _ _
              refine wp_region_noPanic ?_
              refine wp_region_held_drew (S := fun w' => rowAt w' z 0 22 = some x.cells ∧ w'.cell? ⟨pb, 0, none⟩ = some (.slice (some ⟨b3, o3, none⟩) n3 c3) ∧ rowAt w' b3 (o3 + j * 22) 22 = some y.cells) (by kernel_rfl) (HRows.out _ hbx.drew) (fun hHeld => ?_)
              refine wpAnyH_takeD (some 37) (i := 0) (v := ?vh2_0) rfl rfl (by kernel_rfl) (by kernel_rfl) (by kernel_rfl) (fun _ _ _ h => h) (by rfl) ?hh2_0 (by assumption) ?_
              case hh2_0 => (intro wq hSw; (try dsimp only at hSw); go_simp; (try (with_reducible rfl)))
              go_frame
              refine wpAnyH_takeD (some 38) (i := 1) (v := ?vh2_1) rfl rfl (by kernel_rfl) (by kernel_rfl) (by kernel_rfl) (fun _ _ _ h => h) (by rfl) ?hh2_1 (by assumption) ?_
              case hh2_1 => (intro wq hSw; (try dsimp only at hSw); go_simp; (try (with_reducible rfl)))
              go_frame
              refine wpAnyH_takeD (some 39) (i := 2) (v := ?vh2_2) rfl rfl (by kernel_rfl) (by kernel_rfl) (by kernel_rfl) (fun _ _ _ h => h) (by rfl) ?hh2_2 (by assumption) ?_
              case hh2_2 => (intro wq hSw; (try dsimp only at hSw); go_simp; (try (with_reducible rfl)))
              go_frame
              refine wpAnyH_takeD (some 40) (i := 3) (v := ?vh2_3) rfl rfl (by kernel_rfl) (by kernel_rfl) (by kernel_rfl) (fun _ _ _ h => h) (by rfl) ?hh2_3 (by assumption) ?_
              case hh2_3 => (intro wq hSw; (try dsimp only at hSw); go_simp; (try (with_reducible rfl)))
              go_frame
              refine wpAnyH_takeD (some 41) (i := 4) (v := ?vh2_4) rfl rfl (by kernel_rfl) (by kernel_rfl) (by kernel_rfl) (fun _ _ _ h => h) (by rfl) ?hh2_4 (by assumption) ?_
              case hh2_4 => (intro wq hSw; (try dsimp only at hSw); go_simp; (try (with_reducible rfl)))
              go_frame
              refine wpAnyH_takeD (some 42) (i := 5) (v := ?vh2_5) rfl rfl (by kernel_rfl) (by kernel_rfl) (by kernel_rfl) (fun _ _ _ h => h) (by rfl) ?hh2_5 (by assumption) ?_
              case hh2_5 => (intro wq hSw; (try dsimp only at hSw); go_simp; (try (with_reducible rfl)))
              go_frame
              refine wpAnyH_takeD (some 43) (i := 6) (v := ?vh2_6) rfl rfl (by kernel_rfl) (by kernel_rfl) (by kernel_rfl) (fun _ _ _ h => h) (by rfl) ?hh2_6 (by assumption) ?_
              case hh2_6 => (intro wq hSw; (try dsimp only at hSw); go_simp; (try (with_reducible rfl)))
              go_frame
              refine wpAnyH_takeD (some 44) (i := 7) (v := ?vh2_7) rfl rfl (by kernel_rfl) (by kernel_rfl) (by kernel_rfl) (fun _ _ _ h => h) (by rfl) ?hh2_7 (by assumption) ?_
              case hh2_7 => (intro wq hSw; (try dsimp only at hSw); go_simp; (try (with_reducible rfl)))
              go_frame
              refine wpAnyH_takeD (some 45) (i := 8) (v := ?vh2_8) rfl rfl (by kernel_rfl) (by kernel_rfl) (by kernel_rfl) (fun _ _ _ h => h) (by rfl) ?hh2_8 (by assumption) ?_
              case hh2_8 => (intro wq hSw; (try dsimp only at hSw); go_simp; (try (with_reducible rfl)))
              go_frame
              refine wpAnyH_takeD (some 46) (i := 9) (v := ?vh2_9) rfl rfl (by kernel_rfl) (by kernel_rfl) (by kernel_rfl) (fun _ _ _ h => h) (by rfl) ?hh2_9 (by assumption) ?_
              case hh2_9 => (intro wq hSw; (try dsimp only at hSw); go_simp; (try (with_reducible rfl)))
              go_frame
              refine wpAnyH_takeD (some 47) (i := 10) (v := ?vh2_10) rfl rfl (by kernel_rfl) (by kernel_rfl) (by kernel_rfl) (fun _ _ _ h => h) (by rfl) ?hh2_10 (by assumption) ?_
              case hh2_10 => (intro wq hSw; (try dsimp only at hSw); go_simp; (try (with_reducible rfl)))
              go_frame
              refine wpAnyH_done (by kernel_rfl) ?_ _
              refine NoPanic.normal ?_
              go_wp2_with fail
              go_meet
              exact ⟨_, rfl, 1, rfl⟩
          case rest =>
            obtain ⟨r, rfl, k, rfl⟩ := hcut
            have hrq : rowAt (w4.drewN k) z 0 22 = some x.cells := by rw [rowAt_drewN]; exact HBx.out.row 22 rfl
            have HOv5 : Hid ((w4.drewN k).ownsRow w3.heap.size 31 22 u8 O.length (O.flatMap vtc)) := HOv4.out
            have hbr5 : Below w3.heap.size w3 (w4.drewN k) := below_drewN hbr4 k
            cases r with
            | true =>
              clear HOv4 hbr4
              generalize w4.drewN k = w5 at *
              go_wp2_with ((first
                | (refine wpList_build1 rfl 65 31 (.tmp 49) rfl x.cells rfl Tryz.underlying65 (by kernel_rfl) (by decide) (by decide) ?_)
                | (at_builtin; refine wpList_app rfl (.tmp 48) (.tmp 50) _ rfl w3.heap.size 31 (.agg zeroV.cells) 22 64 Tryz.underlying65 info_vote rfl (by decide) u8 O.length (O.flatMap vtc) rfl ?r0 (w5.heap.size + 1) (some ⟨w5.heap.size, 0, none⟩) 1 1 (vtc x) rfl ?r1 ?r2 ?r3 ?r4 ?r5 ?r6 ?_)))
              case r0 => exact HOv5.out.alloc _
              case r1 => rfl
              case r2 => exact Rd.mk (by omega) (fun j u hu => by rw [Nat.zero_add, (Blk.new w5 _ _).cell]; simpa using hu)
              case r3 => exact fun u hu => one_vt x hu
              case r4 => omega
              case r5 => unfold maxLen; omega
              case r6 => have := hbr5.size; simp; omega
              intro v7 w7 hown7 hg7 hat7
              have hbr7 : Below w3.heap.size w3 w7 := below_own (hbr5.alloc hbr5.size _) (HOv5.out.alloc _) hg7
              have HOv7 := Lib.hid hown7
              clear hown7 hg7 hat7 hrq HOv5 hbr5
              go_wp2
              go_roundw
              case rel =>
                refine ⟨i2 + 1, O ++ [x], by go_num, by rw [HL3.out]; omega, by rw [List.length_append]; simp; omega, ?_, ?_, hbr7⟩
                · intro s hs
                  rcases List.mem_append.1 hs with hs | hs
                  · exact HO.out s hs
                  · rw [List.mem_singleton.1 hs]; exact HXl.out
                · have h := HOv7.out
                  rw [List.length_append, List.flatMap_append]
                  simpa using h
              case measure => simp [intOf]; omega
            | false =>
              clear HOv4 hbr4 hrq
              generalize w4.drewN k = w5 at *
              go_wp2
              go_roundw
              case rel => exact ⟨i2 + 1, O, by go_num, by rw [HL3.out]; omega, by omega, HO.out, HOv5.out, hbr5⟩
              case measure => simp [intOf]; omega
        · have di2 : decide ((i2 : Int) < (n3 : Int)) = false := by simp; omega
          go_wp2
          go_ret
          exact ⟨u8, O, rfl, fun s hs => HD.out s (HP3.out.mem_iff.1 (HO.out s hs)), by omega, own_base HOv.out hb3.size, hb3.trans (hbr.mono hb3.size)⟩
end Go.Proofs.YthmecidpjlaonaaGreat
namespace Go.Proofs.YthmecidpjlaonaaGreat
open Go.RowKit
attribute [local go_sem ↓] Go.wp_at_zero Go.wp_at_succ loadNm loadVt loadSg loadEv
attribute [local go_sem] runNm runVt runSg runEv pickRow_some rowAt_drew rowAt_drewN
/-- Each vote is allowed by those ahead of it. -/
def AccW (M : Int) (O : List Vt) : Prop := ∀ k x, O[k]? = some x → AllowR M (quoF (popF (xOf M) 10)) x (O.take k) true
theorem AccW.nil (M : Int) : AccW M [] := fun k x h => by simp at h
theorem AccW.snoc {M : Int} {O : List Vt} {x : Vt} (h : AccW M O) (hx : AllowR M (quoF (popF (xOf M) 10)) x O true) : AccW M (O ++ [x]) := by
  intro k y hy
  by_cases hk : k < O.length
  · rw [List.getElem?_append_left hk] at hy
    rw [List.take_append_of_le_length (Nat.le_of_lt hk)]
    exact h k y hy
  · rw [List.getElem?_append_right (by omega)] at hy
    have h0 : k - O.length = 0 := by
      have := (List.getElem?_eq_some_iff.1 hy).1
      simpa using this
    rw [h0] at hy
    simp only [List.getElem?_cons_zero, Option.some.injEq] at hy
    have hkO : k = O.length := by omega
    subst hkO
    rw [← hy, List.take_append_of_le_length (Nat.le_refl _), List.take_length]
    exact hx
theorem allow_mem {M : Int} {q : Nat} {v : Vt} {C : List Vt} (h : AllowR M q v C true) : (xOf M).testBit v.signer.toNat = true := by
  unfold AllowR at h
  split at h
  · exact h rfl
  · rw [eq_comm, Bool.and_eq_true] at h
    exact h.1
/-- What the votes of one slot are. -/
def OneSl (s : Int) (v : Vt) : Prop := ValidP v ∧ v.kind ≤ 4 ∧ v.slot = s
/-- What is accepted. -/
def AccO (M : Int) (p : Nm) (s : Int) (D O : List Vt) : Prop := AccW M O ∧ ∀ x ∈ O, x ∈ D ∧ OneSl s x ∧ x.parent = p ∧ (xOf M).testBit x.signer.toNat = true
/-- Where the loop stands. -/
def AccRel (M : Int) (p : Nm) (s : Int) (D : List Vt) (w : World) (v fv iv : Value) (wr : World) : Prop :=
  ∃ (i : Nat) (O : List Vt), iv = .int .i64 (i : Int) ∧ fv = .int .i64 0 ∧ i ≤ D.length ∧ O.length ≤ i ∧ AccO M p s D O ∧ wr.ownsRow w.heap.size 31 22 v O.length (O.flatMap vtc) ∧ Below w.heap.size w wr ∧ ((v = .slice none 0 0 ∧ O = []) ∨ 0 < O.length)

set_option maxRecDepth 100000 in
set_option maxHeartbeats 8000000 in
theorem acc_any (M : Int) (p : Nm) (A : Option Addr) (n c : Nat) (l : List Vt) (s : Int) (w0 : World) (hn : l.length = n) (hr : Rd w0 w0.heap.size A (l.flatMap vtc)) (hsm : n ≤ 1000000) (hl : ∀ v ∈ l, OneSl s v) (hs : (xOf M).testBit s.toNat = true) :
    Calls Tryz.prog 109 #[.int .i64 M, p.val, .slice A n c] w0 fun e w' => ∃ (v : Value) (O : List Vt), e = .returned v ∧ AccO M p s l O ∧ O.length ≤ n ∧ w'.ownsRow w0.heap.size 31 22 v O.length (O.flatMap vtc) ∧ Below w0.heap.size w0 w' := by
  obtain ⟨wa, hwa⟩ : ∃ wa, wa = w0.alloc (.cells p.cells 29) := ⟨_, rfl⟩
  have hba : Below w0.heap.size w0 wa := by rw [hwa]; exact (Below.refl _ _).alloc (Nat.le_refl _) _
  have y1 : rowAt wa w0.heap.size 0 8 = some p.cells := by rw [hwa]; exact (Blk.new w0 _ _).row 8 rfl
  have hsa : wa.heap.size = w0.heap.size + 1 := by rw [hwa]; simp
  have HAsc := Lib.hid (asc_any p A n c l wa hn ((hr.below hba).more hba.size) hsm)
  have HL := Lib.hid hl
  have HS := Lib.hid hs
  have HWa := Lib.hid hwa
  clear hn hr hl hs hwa
  go_enter Tryz.func109, Tryz.ntmps109
  go_wp2
  go_step3
  go_wp2
  go_step3
  simp only [← HWa.out]
  go_wp2_with fail
  refine HAsc.out.mono ?_
  rintro en w ⟨v0, D, rfl, hD, hDn, hownD, hbD⟩
  have HD : Hid (∀ x ∈ D, x ∈ l ∧ OneSl s x ∧ x.parent = p) := fun x hx => ⟨(hD x hx).1, HL.out x (hD x hx).1, (hD x hx).2⟩
  obtain ⟨A1, c1, rfl, hR1⟩ : ∃ A1 c1, v0 = .slice A1 D.length c1 ∧ Rd w w.heap.size A1 (D.flatMap vtc) := by
    rcases hownD.2 with ⟨rfl, h0⟩ | ⟨g, cap, cur, rfl, _⟩
    · exact ⟨none, 0, by rw [h0], .inl (List.eq_nil_of_length_eq_zero (by rw [hownD.1, h0, Nat.zero_mul]))⟩
    · exact ⟨_, cap, rfl, Rd.of_own hownD⟩
  obtain ⟨m, hm⟩ : ∃ m, D.length = m := ⟨_, rfl⟩
  rw [hm] at hDn ⊢
  have HM := Lib.hid hm
  have HR := Lib.hid hR1
  have hbw0 : Below w0.heap.size w0 w := hba.trans (hbD.mono hba.size)
  have hm6 : m ≤ 1000000 := by omega
  clear hm hD hownD hR1 y1 HAsc
  go_wp2
  go_loopw [7, 8, 15] (fun v fv iv wr => AccRel M p s D w v fv iv wr) (fun _ _ iv _ => m - (intOf iv).toNat)
  case atStart => exact ⟨0, [], rfl, rfl, Nat.zero_le _, Nat.le_refl _, ⟨AccW.nil M, fun x hx => by cases hx⟩, ⟨by simp, .inl ⟨rfl, rfl⟩⟩, Below.refl _ _, .inl ⟨rfl, rfl⟩⟩
  case round =>
    obtain ⟨i, O, rfl, rfl, hin, hOi, hO, hown, hbw, hnil⟩ := hrel
    rw [HM.out] at hin
    have HO := Lib.hid hO
    have HOwn := Lib.hid hown
    clear hO hown
    have hO6 : O.length ≤ 1000000 := by omega
    by_cases hi : i < m
    · have di : decide ((i : Int) < (m : Int)) = true := by simp; omega
      obtain ⟨x, hx⟩ : ∃ x, D[i]? = some x := ⟨_, List.getElem?_eq_getElem (by rw [HM.out]; exact hi)⟩
      obtain ⟨b, o, rfl, hb, hcell⟩ := HR.out.cells (by intro e; have := flat_length vtc 22 D (vtc_len D); rw [e, HM.out] at this; simp at this; omega)
      clear hcell
      have x1 : rowAt wr b (o + i * 22) 22 = some x.cells := (HR.out.below hbw).voteRow hx
      have HX := Lib.hid (HD.out x (List.mem_of_getElem? hx))
      have HXD := Lib.hid (List.mem_of_getElem? hx)
      clear hx
      rcases hnil with ⟨rfl, rfl⟩ | hpos
      · go_upto_region 6 with (refine wpList_store_blk rfl 31 (.tmp 10) (.tmp 18) rfl wr.heap.size x.cells rfl rfl 31 zeroV.cells (Blk.new wr _ _) (by rfl) (by kernel_rfl) (fun u hu => one_vt x hu) ?_; intro w4 hB4 hg4 hsz4)
        have HOwn4 : Hid (w4.ownsRow w.heap.size 31 22 (.slice none 0 0) 0 (([] : List Vt).flatMap vtc)) := own_kept (HOwn.out.alloc _) hg4 (fun k hk => by
          injection hk with hk
          subst hk
          right
          intro e
          have := (HOwn.out.lt _ e).2
          omega)
        have hbw4 : Below w.heap.size w w4 := (hbw.alloc hbw.size _).grown hg4 (Nat.le_trans hbw.size (by simp)) (fun k hk => by injection hk with hk; subst hk; exact hbw.size)
        have hw4 : w4.heap.size = wr.heap.size + 1 := by rw [hsz4]; simp
        obtain ⟨z, hz⟩ : ∃ z, z = wr.heap.size := ⟨_, rfl⟩
        rw [← hz] at hB4 hw4 ⊢
        have x3 : rowAt w4 z 0 22 = some x.cells := hB4.row 22 rfl
        have x4 : w4.cell? ⟨z, 1, none⟩ = some (.int .i64 x.slot) := hB4.cell 1
        have hz4 : z < w4.heap.size := by omega
        have HRv : Hid (∀ V, Below w4.heap.size w4 V → rowAt V z 0 22 = some x.cells) := fun V hV => (hB4.below hV hz4).row 22 rfl
        clear hg4 hsz4 x1 HOwn hz hw4
        clear hB4
        try go_frame
        go_cut [32] (fun bv wx => bv = .bool false ∧ ∃ k, wx = w4.drewN k)
        case first =>
          refine wp_region_noPanic ?_
          refine wp_region_held_drew (S := fun _ => True) (by kernel_rfl) (trivial) (fun hHeld => ?_)
          refine wpAnyH_takeD (some 19) (i := 0) (v := ?vh1_0) rfl rfl (by kernel_rfl) (by kernel_rfl) (by kernel_rfl) (fun _ _ _ h => h) (by rfl) ?hh1_0 (by assumption) ?_
          case hh1_0 => (intro wq hSw; (try dsimp only at hSw); go_simp; (try (with_reducible rfl)))
          go_frame
          refine wpAnyH_takeD (some 20) (i := 1) (v := ?vh1_1) rfl rfl (by kernel_rfl) (by kernel_rfl) (by kernel_rfl) (fun _ _ _ h => h) (by rfl) ?hh1_1 (by assumption) ?_
          case hh1_1 => (intro wq hSw; (try dsimp only at hSw); go_simp; (try (with_reducible rfl)))
          go_frame
          refine wpAnyH_takeD (some 21) (i := 2) (v := ?vh1_2) rfl rfl (by kernel_rfl) (by kernel_rfl) (by kernel_rfl) (fun _ _ _ h => h) (by rfl) ?hh1_2 (by assumption) ?_
          case hh1_2 => (intro wq hSw; (try dsimp only at hSw); go_simp; (try (with_reducible rfl)))
          go_frame
          refine wpAnyH_takeD (some 22) (i := 3) (v := ?vh1_3) rfl rfl (by kernel_rfl) (by kernel_rfl) (by kernel_rfl) (fun _ _ _ h => h) (by rfl) ?hh1_3 (by assumption) ?_
          case hh1_3 => (intro wq hSw; (try dsimp only at hSw); go_simp; (try (with_reducible rfl)))
          go_frame
          refine wpAnyH_takeD (some 23) (i := 4) (v := ?vh1_4) rfl rfl (by kernel_rfl) (by kernel_rfl) (by kernel_rfl) (fun _ _ _ h => h) (by rfl) ?hh1_4 (by assumption) ?_
          case hh1_4 => (intro wq hSw; (try dsimp only at hSw); go_simp; (try (with_reducible rfl)))
          go_frame
          refine wpAnyH_skipD (some 24) (i := 5) rfl rfl (by kernel_rfl) (by kernel_rfl) (by kernel_rfl) (fun _ _ _ h => h) (by rfl) (by assumption) ?_
          go_frame
          refine wpAnyH_skipD (some 25) (i := 6) rfl rfl (by kernel_rfl) (by kernel_rfl) (by kernel_rfl) (fun _ _ _ h => h) (by rfl) (by assumption) ?_
          go_frame
          refine wpAnyH_skipD (some 26) (i := 7) rfl rfl (by kernel_rfl) (by kernel_rfl) (by kernel_rfl) (fun _ _ _ h => h) (by rfl) (by assumption) ?_
          go_frame
          refine wpAnyH_skipD (some 27) (i := 8) rfl rfl (by kernel_rfl) (by kernel_rfl) (by kernel_rfl) (fun _ _ _ h => h) (by rfl) (by assumption) ?_
          go_frame
          refine wpAnyH_skipD (some 28) (i := 9) rfl rfl (by kernel_rfl) (by kernel_rfl) (by kernel_rfl) (fun _ _ _ h => h) (by rfl) (by assumption) ?_
          go_frame
          refine wpAnyH_skipD (some 29) (i := 10) rfl rfl (by kernel_rfl) (by kernel_rfl) (by kernel_rfl) (fun _ _ _ h => h) (by rfl) (by assumption) ?_
          go_frame
          refine wpAnyH_skipD (some 30) (i := 11) rfl rfl (by kernel_rfl) (by kernel_rfl) (by kernel_rfl) (fun _ _ _ h => h) (by rfl) (by assumption) ?_
          go_frame
          refine wpAnyH_skipD (some 31) (i := 12) rfl rfl (by kernel_rfl) (by kernel_rfl) (by kernel_rfl) (fun _ _ _ h => h) (by rfl) (by assumption) ?_
          go_frame
          refine wpAnyH_takeD (some 32) (i := 13) (v := ?vh1_13) rfl rfl (by kernel_rfl) (by kernel_rfl) (by kernel_rfl) (fun _ _ _ h => h) (by rfl) ?hh1_13 (by assumption) ?_
          case hh1_13 => (intro wq hSw; (try dsimp only at hSw); go_simp; (try (with_reducible rfl)))
          go_frame
          refine wpAnyH_done (by kernel_rfl) ?_ _
          refine NoPanic.normal ?_
          go_wp2_with fail
          go_meet
          exact ⟨rfl, 1, rfl⟩
        case rest =>
          obtain ⟨rfl, k, rfl⟩ := hcut
          have HOwn5 : Hid ((w4.drewN k).ownsRow w.heap.size 31 22 (.slice none 0 0) 0 (([] : List Vt).flatMap vtc)) := HOwn4.out
          have hbw5 : Below w.heap.size w (w4.drewN k) := below_drewN hbw4 k
          have hb45 : Below w4.heap.size w4 (w4.drewN k) := below_drewN (Below.refl _ _) k
          have HRv5 : Hid (∀ V, Below (w4.drewN k).heap.size (w4.drewN k) V → rowAt V z 0 22 = some x.cells) := fun V hV => HRv.out V (hb45.trans (hV.mono hb45.size))
          have hz5 : z < (w4.drewN k).heap.size := hz4
          clear HOwn4 hbw4 hb45 HRv x3 x4
          generalize w4.drewN k = w5 at *
          have HAl : Hid (∀ V, Below w5.heap.size w5 V → Calls Tryz.prog 142 #[.int .i64 M, x.val, .slice none 0 0] V fun e w' => ∃ b, e = .returned (.bool b) ∧ Below V.heap.size V w' ∧ AllowR M (quoF (popF (xOf M) 10)) x ([] : List Vt) b) := fun V hV =>
            allowed_any M 0 none 0 ([] : List Vt) x V rfl Rd.nil (fun t ht => ⟨(HO.out.2 t ht).2.1.1, (HO.out.2 t ht).2.1.2.1, ((HO.out.2 t ht).2.2.1).trans HX.out.2.2.symm, ((HO.out.2 t ht).2.1.2.2).trans HX.out.2.1.2.2.symm, (HO.out.2 t ht).2.2.2⟩) (by omega)
              HX.out.2.1.1 HX.out.2.1.2.1 (by rw [HX.out.2.1.2.2]; exact HS.out)
          have x6 : rowAt w5 z 0 22 = some x.cells := HRv5.out w5 (Below.refl _ _)
          have hbx : Below w5.heap.size w5 w5 := Below.refl _ _
          go_wp2_with fail
          refine wp_region_noPanic ?_
          refine wp_region_held_drew (S := fun w' => rowAt w' z 0 22 = some x.cells) (by kernel_rfl) (HRv5.out _ hbx.drew) (fun hHeld => ?_)
          refine wpAnyH_takeD (some 35) (i := 0) (v := ?vh2_0) rfl rfl (by kernel_rfl) (by kernel_rfl) (by kernel_rfl) (fun _ _ _ h => h) (by rfl) ?hh2_0 (by assumption) ?_
          case hh2_0 => (intro wq hSw; (try dsimp only at hSw); go_simp; (try (with_reducible rfl)))
          go_frame
          refine wpAnyH_takeD (some 36) (i := 1) (v := ?vh2_1) rfl rfl (by kernel_rfl) (by kernel_rfl) (by kernel_rfl) (fun _ _ _ h => h) (by rfl) ?hh2_1 (by assumption) ?_
          case hh2_1 => (intro wq hSw; (try dsimp only at hSw); go_simp; (try (with_reducible rfl)))
          go_frame
          refine wpAnyH_takeD (some 37) (i := 2) (v := ?vh2_2) rfl rfl (by kernel_rfl) (by kernel_rfl) (by kernel_rfl) (fun _ _ _ h => h) (by rfl) ?hh2_2 (by assumption) ?_
          case hh2_2 => (intro wq hSw; (try dsimp only at hSw); go_simp; (try (with_reducible rfl)))
          go_frame
          refine wpAnyH_takeD (some 38) (i := 3) (v := ?vh2_3) rfl rfl (by kernel_rfl) (by kernel_rfl) (by kernel_rfl) (fun _ _ _ h => h) (by rfl) ?hh2_3 (by assumption) ?_
          case hh2_3 => (intro wq hSw; (try dsimp only at hSw); go_simp; (try (with_reducible rfl)))
          go_frame
          refine wpAnyH_takeD (some 39) (i := 4) (v := ?vh2_4) rfl rfl (by kernel_rfl) (by kernel_rfl) (by kernel_rfl) (fun _ _ _ h => h) (by rfl) ?hh2_4 (by assumption) ?_
          case hh2_4 => (intro wq hSw; (try dsimp only at hSw); go_simp; (try (with_reducible rfl)))
          go_frame
          refine wpAnyH_ready (rs := [5]) (by kernel_rfl) (by simp) ?_
          refine AllReadyH.cons rfl (fun K hK => ?_) AllReadyH.nil
          go_simp
          refine (HAl.out _ hbx.drew).mono ?_; rintro en w6 ⟨r, rfl, hb6, hal⟩; have hb56 := hbx.drew.trans (hb6.mono (Nat.le_refl _)); have HAL := Lib.hid hal; clear hal
          go_wp2_with fail
          refine hK.out _ _ (HRv5.out _ hb56) (fun hHeld => ?_)
          clear hK K
          try go_frame
          refine wpAnyH_takeD (some 41) (i := 6) (v := ?vh2_6) rfl rfl (by kernel_rfl) (by kernel_rfl) (by kernel_rfl) (fun _ _ _ h => h) (by rfl) ?hh2_6 (by assumption) ?_
          case hh2_6 => (intro wq hSw; (try dsimp only at hSw); go_simp; (try (with_reducible rfl)))
          go_frame
          refine wpAnyH_done (by kernel_rfl) ?_ _
          refine NoPanic.normal ?_
          have hbw6 : Below w.heap.size w w6 := hbw5.trans (hb56.mono hbw5.size)
          have HOwn6 : Hid (w6.ownsRow w.heap.size 31 22 (.slice none 0 0) 0 (([] : List Vt).flatMap vtc)) := own_below HOwn5.out hb56 (Nat.le_refl _)
          have x7 : rowAt w6 z 0 22 = some x.cells := HRv5.out _ hb56
          clear HOwn5 hbw5 HAl HRv5 hb56 hb6 x6 hbx
          cases r with
          | false =>
            go_wp2
            go_roundw
            case rel => exact ⟨i + 1, ([] : List Vt), by go_num, rfl, by rw [HM.out]; omega, by simp, HO.out, HOwn6.out, hbw6, .inl ⟨rfl, rfl⟩⟩
            case measure => simp [intOf]; omega
          | true =>
            go_wp2_with ((first
              | (refine wpList_build1 rfl 65 31 (.tmp 43) rfl x.cells rfl Tryz.underlying65 (by kernel_rfl) (by decide) (by decide) ?_)
              | (at_builtin; refine wpList_app rfl (.tmp 42) (.tmp 44) _ rfl w.heap.size 31 (.agg zeroV.cells) 22 64 Tryz.underlying65 info_vote rfl (by decide) (.slice none 0 0) 0 (([] : List Vt).flatMap vtc) rfl ?r0 (w6.heap.size + 1) (some ⟨w6.heap.size, 0, none⟩) 1 1 (vtc x) rfl ?r1 ?r2 ?r3 ?r4 ?r5 ?r6 ?_)))
            case r0 => exact HOwn6.out.alloc _
            case r1 => rfl
            case r2 => exact Rd.mk (by omega) (fun j u hu => by rw [Nat.zero_add, (Blk.new w6 _ _).cell]; simpa using hu)
            case r3 => exact fun u hu => one_vt x hu
            case r4 => omega
            case r5 => unfold maxLen; omega
            case r6 => have := hbw6.size; simp; omega
            intro v7 w7 hown7 hg7 hat7
            have hbw7 : Below w.heap.size w w7 := below_own (hbw6.alloc hbw6.size _) (HOwn6.out.alloc _) hg7
            have HOwn7 := Lib.hid hown7
            clear hown7 hg7 hat7 x7 HOwn6
            go_wp2
            go_roundw
            case rel =>
              refine ⟨i + 1, ([] : List Vt) ++ [x], by go_num, rfl, by rw [HM.out]; omega, by rw [List.length_append]; simp, ⟨HO.out.1.snoc HAL.out, ?_⟩, ?_, hbw7, .inr (by rw [List.length_append]; simp)⟩
              · intro t ht
                rcases List.mem_append.1 ht with ht | ht
                · exact HO.out.2 t ht
                · rw [List.mem_singleton.1 ht]; exact ⟨HXD.out, HX.out.2.1, HX.out.2.2, allow_mem HAL.out⟩
              · have h := HOwn7.out
                rw [List.length_append, List.flatMap_append]
                simpa using h
            case measure => simp [intOf]; omega
      · obtain ⟨g, cap, T, rfl, hg, hblk, hcap⟩ : ∃ g cap T, u7 = .slice (some ⟨g, 0, none⟩) O.length cap ∧ w.heap.size ≤ g ∧ Blk wr g 31 (O.flatMap vtc ++ T).toArray ∧ O.length ≤ cap := by
          rcases own_tail HOwn.out with ⟨_, h0, _⟩ | h
          · omega
          · exact h
        go_upto_region 6 with (refine wpList_store_blk rfl 31 (.tmp 10) (.tmp 18) rfl wr.heap.size x.cells rfl rfl 31 zeroV.cells (Blk.new wr _ _) (by rfl) (by kernel_rfl) (fun u hu => one_vt x hu) ?_; intro w4 hB4 hg4 hsz4)
        have HOwn4 : Hid (w4.ownsRow w.heap.size 31 22 (.slice (some ⟨g, 0, none⟩) O.length cap) O.length (O.flatMap vtc)) := own_kept (HOwn.out.alloc _) hg4 (fun k hk => by
          injection hk with hk
          subst hk
          right
          intro e
          have := (HOwn.out.lt _ e).2
          omega)
        have hbw4 : Below w.heap.size w w4 := (hbw.alloc hbw.size _).grown hg4 (Nat.le_trans hbw.size (by simp)) (fun k hk => by injection hk with hk; subst hk; exact hbw.size)
        have hw4 : w4.heap.size = wr.heap.size + 1 := by rw [hsz4]; simp
        obtain ⟨z, hz⟩ : ∃ z, z = wr.heap.size := ⟨_, rfl⟩
        rw [← hz] at hB4 hw4 ⊢
        have x3 : rowAt w4 z 0 22 = some x.cells := hB4.row 22 rfl
        have x4 : w4.cell? ⟨z, 1, none⟩ = some (.int .i64 x.slot) := hB4.cell 1
        have hz4 : z < w4.heap.size := by omega
        have HRv : Hid (∀ V, Below w4.heap.size w4 V → rowAt V z 0 22 = some x.cells) := fun V hV => (hB4.below hV hz4).row 22 rfl
        clear hsz4 x1 HOwn hz hw4
        have HG4 : Hid (Blk w4 g 31 (O.flatMap vtc ++ T).toArray) := (hblk.alloc _).kept hg4 (by intro e; injection e with e; have := hblk.lt; omega)
        clear hg4 hblk
        obtain ⟨y, hy⟩ : ∃ y, O[0]? = some y := ⟨_, List.getElem?_eq_getElem hpos⟩
        have hysl : y.slot = x.slot := ((HO.out.2 y (List.mem_of_getElem? hy)).2.1.2.2).trans HX.out.2.1.2.2.symm
        have x5 : w4.cell? ⟨g, 1, none⟩ = some (.int .i64 x.slot) := by
          have h := row_cell (c := ⟨vtc, T⟩) (m := 22) (fun _ => rfl) HG4.out 0 1 y (.int .i64 y.slot) hy rfl
          rw [← hysl]
          simpa using h
        have hgz : g < w4.heap.size := HG4.out.lt
        clear hy hysl
        clear hB4
        have dl : decide (0 < (O.length : Int)) = true := by simp; omega
        have dn : (x.slot != x.slot) = false := by simp
        have HX45 : Hid (w4.cell? ⟨z, 1, none⟩ = some (.int .i64 x.slot) ∧ w4.cell? ⟨g, 1, none⟩ = some (.int .i64 x.slot)) := ⟨x4, x5⟩
        obtain ⟨nO, hnO⟩ : ∃ nO, O.length = nO := ⟨_, rfl⟩
        rw [hnO] at hcap dl hO6 hpos hOi ⊢
        have dl2 : decide (0 < nO) = true := by simp; omega
        have HNO := Lib.hid hnO
        clear hnO
        try go_frame
        go_cut [32] (fun bv wx => bv = .bool false ∧ ∃ k, wx = w4.drewN k)
        case first =>
          refine wp_region_noPanic ?_
          refine wp_region_held_drew (S := fun w' => w'.cell? ⟨z, 1, none⟩ = some (.int .i64 x.slot) ∧ w'.cell? ⟨g, 1, none⟩ = some (.int .i64 x.slot)) (by kernel_rfl) (HX45.out) (fun hHeld => ?_)
          refine wpAnyH_takeD (some 19) (i := 0) (v := ?vh3_0) rfl rfl (by kernel_rfl) (by kernel_rfl) (by kernel_rfl) (fun _ _ _ h => h) (by rfl) ?hh3_0 (by assumption) ?_
          case hh3_0 => (intro wq hSw; (try dsimp only at hSw); go_simp; (try (with_reducible rfl)))
          go_frame
          refine wpAnyH_takeD (some 20) (i := 1) (v := ?vh3_1) rfl rfl (by kernel_rfl) (by kernel_rfl) (by kernel_rfl) (fun _ _ _ h => h) (by rfl) ?hh3_1 (by assumption) ?_
          case hh3_1 => (intro wq hSw; (try dsimp only at hSw); go_simp; (try (with_reducible rfl)))
          go_frame
          refine wpAnyH_takeD (some 21) (i := 2) (v := ?vh3_2) rfl rfl (by kernel_rfl) (by kernel_rfl) (by kernel_rfl) (fun _ _ _ h => h) (by rfl) ?hh3_2 (by assumption) ?_
          case hh3_2 => (intro wq hSw; (try dsimp only at hSw); go_simp; (try (with_reducible rfl)))
          go_frame
          refine wpAnyH_takeD (some 22) (i := 3) (v := ?vh3_3) rfl rfl (by kernel_rfl) (by kernel_rfl) (by kernel_rfl) (fun _ _ _ h => h) (by rfl) ?hh3_3 (by assumption) ?_
          case hh3_3 => (intro wq hSw; (try dsimp only at hSw); go_simp; (try (with_reducible rfl)))
          go_frame
          refine wpAnyH_takeD (some 23) (i := 4) (v := ?vh3_4) rfl rfl (by kernel_rfl) (by kernel_rfl) (by kernel_rfl) (fun _ _ _ h => h) (by rfl) ?hh3_4 (by assumption) ?_
          case hh3_4 => (intro wq hSw; (try dsimp only at hSw); go_simp; (try (with_reducible rfl)))
          go_frame
          refine wpAnyH_takeD (some 24) (i := 5) (v := ?vh3_5) rfl rfl (by kernel_rfl) (by kernel_rfl) (by kernel_rfl) (fun _ _ _ h => h) (by rfl) ?hh3_5 (by assumption) ?_
          case hh3_5 => (intro wq hSw; (try dsimp only at hSw); go_simp; (try (with_reducible rfl)))
          go_frame
          refine wpAnyH_takeD (some 25) (i := 6) (v := ?vh3_6) rfl rfl (by kernel_rfl) (by kernel_rfl) (by kernel_rfl) (fun _ _ _ h => h) (by rfl) ?hh3_6 (by assumption) ?_
          case hh3_6 => (intro wq hSw; (try dsimp only at hSw); go_simp; (try (with_reducible rfl)))
          go_frame
          refine wpAnyH_takeD (some 26) (i := 7) (v := ?vh3_7) rfl rfl (by kernel_rfl) (by kernel_rfl) (by kernel_rfl) (fun _ _ _ h => h) (by rfl) ?hh3_7 (by assumption) ?_
          case hh3_7 => (intro wq hSw; (try dsimp only at hSw); go_simp; (try (with_reducible rfl)))
          go_frame
          refine wpAnyH_takeD (some 27) (i := 8) (v := ?vh3_8) rfl rfl (by kernel_rfl) (by kernel_rfl) (by kernel_rfl) (fun _ _ _ h => h) (by rfl) ?hh3_8 (by assumption) ?_
          case hh3_8 => (intro wq hSw; (try dsimp only at hSw); go_simp; (try (with_reducible rfl)))
          go_frame
          refine wpAnyH_takeD (some 28) (i := 9) (v := ?vh3_9) rfl rfl (by kernel_rfl) (by kernel_rfl) (by kernel_rfl) (fun _ _ _ h => h) (by rfl) ?hh3_9 (by assumption) ?_
          case hh3_9 => (intro wq hSw; (try dsimp only at hSw); go_simp; (try (with_reducible rfl)))
          go_frame
          refine wpAnyH_takeD (some 29) (i := 10) (v := ?vh3_10) rfl rfl (by kernel_rfl) (by kernel_rfl) (by kernel_rfl) (fun _ _ _ h => h) (by rfl) ?hh3_10 (by assumption) ?_
          case hh3_10 => (intro wq hSw; (try dsimp only at hSw); go_simp; (try (with_reducible rfl)))
          go_frame
          refine wpAnyH_takeD (some 30) (i := 11) (v := ?vh3_11) rfl rfl (by kernel_rfl) (by kernel_rfl) (by kernel_rfl) (fun _ _ _ h => h) (by rfl) ?hh3_11 (by assumption) ?_
          case hh3_11 => (intro wq hSw; (try dsimp only at hSw); go_simp; (try (with_reducible rfl)))
          go_frame
          refine wpAnyH_takeD (some 31) (i := 12) (v := ?vh3_12) rfl rfl (by kernel_rfl) (by kernel_rfl) (by kernel_rfl) (fun _ _ _ h => h) (by rfl) ?hh3_12 (by assumption) ?_
          case hh3_12 => (intro wq hSw; (try dsimp only at hSw); go_simp; (try (with_reducible rfl)))
          go_frame
          refine wpAnyH_takeD (some 32) (i := 13) (v := ?vh3_13) rfl rfl (by kernel_rfl) (by kernel_rfl) (by kernel_rfl) (fun _ _ _ h => h) (by rfl) ?hh3_13 (by assumption) ?_
          case hh3_13 => (intro wq hSw; (try dsimp only at hSw); go_simp; (try (with_reducible rfl)))
          go_frame
          refine wpAnyH_done (by kernel_rfl) ?_ _
          refine NoPanic.normal ?_
          go_wp2_with fail
          go_meet
          exact ⟨rfl, 1, rfl⟩
        case rest =>
          obtain ⟨rfl, k, rfl⟩ := hcut
          have HOwn5 : Hid ((w4.drewN k).ownsRow w.heap.size 31 22 (.slice (some ⟨g, 0, none⟩) O.length cap) O.length (O.flatMap vtc)) := HOwn4.out
          have hbw5 : Below w.heap.size w (w4.drewN k) := below_drewN hbw4 k
          have hb45 : Below w4.heap.size w4 (w4.drewN k) := below_drewN (Below.refl _ _) k
          have HRv5 : Hid (∀ V, Below (w4.drewN k).heap.size (w4.drewN k) V → rowAt V z 0 22 = some x.cells) := fun V hV => HRv.out V (hb45.trans (hV.mono hb45.size))
          have hz5 : z < (w4.drewN k).heap.size := hz4
          clear HOwn4 hbw4 hb45 HRv x3 x4
          clear HG4 x5 HX45 hgz
          generalize w4.drewN k = w5 at *
          have HAl : Hid (∀ V, Below w5.heap.size w5 V → Calls Tryz.prog 142 #[.int .i64 M, x.val, .slice (some ⟨g, 0, none⟩) nO cap] V fun e w' => ∃ b, e = .returned (.bool b) ∧ Below V.heap.size V w' ∧ AllowR M (quoF (popF (xOf M) 10)) x O b) := fun V hV =>
            allowed_any M nO (some ⟨g, 0, none⟩) cap O x V HNO.out ((Rd.of_own (HNO.out ▸ HOwn5.out)).below hV |>.more hV.size) (fun t ht => ⟨(HO.out.2 t ht).2.1.1, (HO.out.2 t ht).2.1.2.1, ((HO.out.2 t ht).2.2.1).trans HX.out.2.2.symm, ((HO.out.2 t ht).2.1.2.2).trans HX.out.2.1.2.2.symm, (HO.out.2 t ht).2.2.2⟩) (by omega)
              HX.out.2.1.1 HX.out.2.1.2.1 (by rw [HX.out.2.1.2.2]; exact HS.out)
          have x6 : rowAt w5 z 0 22 = some x.cells := HRv5.out w5 (Below.refl _ _)
          have hbx : Below w5.heap.size w5 w5 := Below.refl _ _
          go_wp2_with fail
          refine wp_region_noPanic ?_
          refine wp_region_held_drew (S := fun w' => rowAt w' z 0 22 = some x.cells) (by kernel_rfl) (HRv5.out _ hbx.drew) (fun hHeld => ?_)
          refine wpAnyH_takeD (some 35) (i := 0) (v := ?vh4_0) rfl rfl (by kernel_rfl) (by kernel_rfl) (by kernel_rfl) (fun _ _ _ h => h) (by rfl) ?hh4_0 (by assumption) ?_
          case hh4_0 => (intro wq hSw; (try dsimp only at hSw); go_simp; (try (with_reducible rfl)))
          go_frame
          refine wpAnyH_takeD (some 36) (i := 1) (v := ?vh4_1) rfl rfl (by kernel_rfl) (by kernel_rfl) (by kernel_rfl) (fun _ _ _ h => h) (by rfl) ?hh4_1 (by assumption) ?_
          case hh4_1 => (intro wq hSw; (try dsimp only at hSw); go_simp; (try (with_reducible rfl)))
          go_frame
          refine wpAnyH_takeD (some 37) (i := 2) (v := ?vh4_2) rfl rfl (by kernel_rfl) (by kernel_rfl) (by kernel_rfl) (fun _ _ _ h => h) (by rfl) ?hh4_2 (by assumption) ?_
          case hh4_2 => (intro wq hSw; (try dsimp only at hSw); go_simp; (try (with_reducible rfl)))
          go_frame
          refine wpAnyH_takeD (some 38) (i := 3) (v := ?vh4_3) rfl rfl (by kernel_rfl) (by kernel_rfl) (by kernel_rfl) (fun _ _ _ h => h) (by rfl) ?hh4_3 (by assumption) ?_
          case hh4_3 => (intro wq hSw; (try dsimp only at hSw); go_simp; (try (with_reducible rfl)))
          go_frame
          refine wpAnyH_takeD (some 39) (i := 4) (v := ?vh4_4) rfl rfl (by kernel_rfl) (by kernel_rfl) (by kernel_rfl) (fun _ _ _ h => h) (by rfl) ?hh4_4 (by assumption) ?_
          case hh4_4 => (intro wq hSw; (try dsimp only at hSw); go_simp; (try (with_reducible rfl)))
          go_frame
          refine wpAnyH_ready (rs := [5]) (by kernel_rfl) (by simp) ?_
          refine AllReadyH.cons rfl (fun K hK => ?_) AllReadyH.nil
          go_simp
          refine (HAl.out _ hbx.drew).mono ?_; rintro en w6 ⟨r, rfl, hb6, hal⟩; have hb56 := hbx.drew.trans (hb6.mono (Nat.le_refl _)); have HAL := Lib.hid hal; clear hal
          go_wp2_with fail
          refine hK.out _ _ (HRv5.out _ hb56) (fun hHeld => ?_)
          clear hK K
          try go_frame
          refine wpAnyH_takeD (some 41) (i := 6) (v := ?vh4_6) rfl rfl (by kernel_rfl) (by kernel_rfl) (by kernel_rfl) (fun _ _ _ h => h) (by rfl) ?hh4_6 (by assumption) ?_
          case hh4_6 => (intro wq hSw; (try dsimp only at hSw); go_simp; (try (with_reducible rfl)))
          go_frame
          refine wpAnyH_done (by kernel_rfl) ?_ _
          refine NoPanic.normal ?_
          have hbw6 : Below w.heap.size w w6 := hbw5.trans (hb56.mono hbw5.size)
          have HOwn6 : Hid (w6.ownsRow w.heap.size 31 22 (.slice (some ⟨g, 0, none⟩) O.length cap) O.length (O.flatMap vtc)) := own_below HOwn5.out hb56 (Nat.le_refl _)
          have x7 : rowAt w6 z 0 22 = some x.cells := HRv5.out _ hb56
          clear HOwn5 hbw5 HAl HRv5 hb56 hb6 x6 hbx
          cases r with
          | false =>
            go_wp2
            go_roundw
            case rel => exact ⟨i + 1, O, by go_num, rfl, by rw [HM.out]; omega, by rw [HNO.out]; omega, HO.out, (by have h := HOwn6.out; rw [HNO.out] at h ⊢; exact h), hbw6, .inr (by rw [HNO.out]; omega)⟩
            case measure => simp [intOf]; omega
          | true =>
            go_wp2_with ((first
              | (refine wpList_build1 rfl 65 31 (.tmp 43) rfl x.cells rfl Tryz.underlying65 (by kernel_rfl) (by decide) (by decide) ?_)
              | (at_builtin; refine wpList_app rfl (.tmp 42) (.tmp 44) _ rfl w.heap.size 31 (.agg zeroV.cells) 22 64 Tryz.underlying65 info_vote rfl (by decide) (.slice (some ⟨g, 0, none⟩) nO cap) nO (O.flatMap vtc) rfl ?r0 (w6.heap.size + 1) (some ⟨w6.heap.size, 0, none⟩) 1 1 (vtc x) rfl ?r1 ?r2 ?r3 ?r4 ?r5 ?r6 ?_)))
            case r0 => exact (HNO.out ▸ HOwn6.out.alloc _)
            case r1 => rfl
            case r2 => exact Rd.mk (by omega) (fun j u hu => by rw [Nat.zero_add, (Blk.new w6 _ _).cell]; simpa using hu)
            case r3 => exact fun u hu => one_vt x hu
            case r4 => omega
            case r5 => unfold maxLen; omega
            case r6 => have := hbw6.size; simp; omega
            intro v7 w7 hown7 hg7 hat7
            have hbw7 : Below w.heap.size w w7 := below_own (hbw6.alloc hbw6.size _) (HOwn6.out.alloc _) hg7
            have HOwn7 := Lib.hid hown7
            clear hown7 hg7 hat7 x7 HOwn6
            go_wp2
            go_roundw
            case rel =>
              refine ⟨i + 1, O ++ [x], by go_num, rfl, by rw [HM.out]; omega, by rw [List.length_append, HNO.out]; simp; omega, ⟨HO.out.1.snoc HAL.out, ?_⟩, ?_, hbw7, .inr (by rw [List.length_append]; simp)⟩
              · intro t ht
                rcases List.mem_append.1 ht with ht | ht
                · exact HO.out.2 t ht
                · rw [List.mem_singleton.1 ht]; exact ⟨HXD.out, HX.out.2.1, HX.out.2.2, allow_mem HAL.out⟩
              · have h := HOwn7.out
                rw [List.length_append, List.flatMap_append]
                simpa [HNO.out] using h
            case measure => simp [intOf]; omega
    · have di : decide ((i : Int) < (m : Int)) = false := by simp; omega
      clear hnil
      go_wp2
      rw [Exit.noGoto_ret]
      go_ret
      exact ⟨u7, O, rfl, ⟨HO.out.1, fun y hy => ⟨(HD.out y (HO.out.2 y hy).1).1, (HO.out.2 y hy).2⟩⟩, by omega, own_base HOwn.out hbw0.size, hbw0.trans (hbw.mono hbw0.size)⟩
end Go.Proofs.YthmecidpjlaonaaGreat
