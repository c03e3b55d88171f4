/-
  The reference's start, OnePublic, key, leaves and names: the value at position 0 of a chain (startF), the public name of a one-time key (opubF), a key's seed (seedF), the public names of a tree (treeF), names as bytes. Condition: the numbers are small.
  The reference's OnePublic, OneSign, leaves and names: the public name of a one-time key (opubF), a one-time signature (osignF), the public names of a tree (treeF), names as bytes. Condition: the numbers are small.
  The reference's Path returns the path of name i of 2^d names (pathF), and true, and changes nothing that was there. Condition: the names lie in memory below the call.
-/
import Derived.Test.YthmecidpjlaonaaGreatGSgn1
import Derived.Deep.DeepCutAuto
import Derived.Test.YthmecidpjlaonaaGreatGDefs
namespace Go.Proofs.YthmecidpjlaonaaGreat
open Go.RowKit
attribute [local go_sem ↓] Go.wp_at_zero Go.wp_at_succ loadNm
attribute [local go_sem] runNm pickRow_some rowAt_drew rowAt_drewN

set_option maxRecDepth 100000 in
set_option maxHeartbeats 1000000 in
theorem rstart_core (s r : Nm) (c : Nat) (w : World) (hc : c ≤ 255) (hr : startF s c = r) : Calls Tryz.prog 126 #[s.val, .int .i64 (c : Int)] w (NmPost w r) := by
  have hr2 : sumF (32 :: (s.bytes ++ [UInt8.ofNat c])) = r := hr
  have Hr := Lib.hid hr2; clear hr hr2
  have hb1 := bn_eq c hc
  generalize UInt8.ofNat c = b1 at *
  have HB1 := Lib.hid hb1; clear hb1
  go_enter Tryz.func126, Tryz.ntmps126
  go_upto_region 1 with fail
  have hX : Blk ((w.alloc (Obj.cells s.cells 29)).alloc (Obj.cells zero8 29)) w.heap.size 29 s.cells := (Blk.new w _ _).alloc _
  have hR : Blk ((w.alloc (Obj.cells s.cells 29)).alloc (Obj.cells zero8 29)) (w.heap.size + 1) 29 zero8 := by
    have := Blk.new (w.alloc (Obj.cells s.cells 29)) 29 zero8
    simpa using this
  have hb : Below w.heap.size w ((w.alloc (Obj.cells s.cells 29)).alloc (Obj.cells zero8 29)) := ((Below.refl _ _).alloc (Nat.le_refl _) _).alloc (by simp) _
  generalize ((w.alloc (Obj.cells s.cells 29)).alloc (Obj.cells zero8 29)) = W at *
  have hltX := hX.lt
  have hmade : Hid ((W.alloc (.cells #[] 5)).ownsRow w.heap.size 5 1 (.slice (some ⟨W.heap.size, 0, none⟩) 0 0) 0 []) := own_base (World.ownsRow_made W #[] 0 (Nat.le_refl _) (by unfold maxLen; omega) rfl) hb.size
  have hrdX : Hid (Rd (W.alloc (.cells #[] 5)) (W.alloc (.cells #[] 5)).heap.size (some ⟨w.heap.size, 0, none⟩) (s.bytes.map B)) := by
    unfold Hid
    have h := Rd.of_blk (hX.alloc (.cells #[] 5)) 0 8
    simpa [Nm.bytes] using h
  have hb1 := hb.alloc hb.size (.cells #[] 5)
  have HT : Hid (∀ (A4 : Option Addr) (c4 : Nat) (w4 : World), w4.ownsRow w.heap.size 5 1 (.slice A4 (8 + 1) c4) (8 + 1) (s.bytes.map B ++ [B b1]) → Calls Tryz.prog 86 #[.int .u8 32, .slice A4 (8 + 1) c4] w4 (NmPost w4 r)) := fun A4 c4 w4 ho => by
    have e : s.bytes.map B ++ [B b1] = (s.bytes ++ [b1]).map B := by simp
    rw [e] at ho
    exact rtagged_core 32 A4 c4 (s.bytes ++ [b1]) r w4 (Rd.of_own ho) (by simp [Nm.bytes]) Hr.out
  go_wp2_with (first
    | (at_builtin; refine wpList_app rfl (.tmp 5) (.tmp 6) _ rfl w.heap.size 5 (.int .u8 0) 1 1 Tryz.underlying32 info_byte rfl (by decide) (.slice (some ⟨W.heap.size, 0, none⟩) 0 0) 0 [] rfl hmade.out (W.alloc (.cells #[] 5)).heap.size (some ⟨w.heap.size, 0, none⟩) 8 8 (s.bytes.map B) rfl rfl hrdX.out (fun u hu => bytes_one hu) (by omega) (by unfold maxLen; omega) hb1.size ?_; intro v2 w2 hown2 hg2 hat2; have hR2 := (hR.alloc (.cells #[] 5)).kept hg2 (own_ne hmade.out (hR.alloc _) (by decide)); have hb2 := below_own hb1 hmade.out hg2)
    | (at_builtin; refine wpList_app rfl (.tmp 7) (.tmp 10) _ rfl w.heap.size 5 (.int .u8 0) 1 1 Tryz.underlying32 info_byte rfl (by decide) _ (0 + 8) _ rfl (hown2.alloc _) (w2.heap.size + 1) _ 1 1 [B b1] rfl rfl (by have h := Rd.one w2 (B b1) 5; rw [HB1.out] at h ⊢; exact h) (fun u hu => one_cell hu rfl) (by omega) (by unfold maxLen; omega) (by have := hb2.size; simp; omega) ?_; intro v4 w4 hown4 hg4 hat4; have hR4 := (hR2.alloc _).kept hg4 (own_ne hown2 hR2 (by decide)); have hbw4 := below_own (hb2.alloc hb2.size _) (hown2.alloc _) hg4; obtain ⟨A4, c4, hv4⟩ := own_form hown4; subst hv4)
    | (go_at_call 86; refine (HT.out A4 c4 w4 (by simpa using hown4)).mono ?_; rintro en w5 ⟨rfl, hb5⟩; have hR5 := hR4.below hb5 hR4.lt; have hbw5 := hbw4.trans (hb5.mono hbw4.size))
    | (refine wpList_store_blk rfl 29 (.tmp 4) (.tmp 12) rfl (w.heap.size + 1) _ rfl rfl 29 _ hR5 rfl size_name (fun u hu => one_nm r hu) ?_))
  intro w6 hR6 hg6 hs6
  have hbw6 : Below w.heap.size w w6 := hbw5.grown hg6 hbw5.size (by rintro j ⟨⟩; omega)
  go_wp2
  exact bodyPost_ret (results_cell_row (g := w.heap.size + 1) rfl _ _ _ _ _ _ rfl hR6 Tryz.underlying29 rfl size_name) rfl ⟨rfl, hbw6⟩
set_option maxRecDepth 100000 in
set_option maxHeartbeats 1000000 in
theorem rkey_core (s r : Nm) (level t j : Nat) (w : World) (hl : level ≤ 2) (ht : t < 32) (hj : j < 32) (hr : seedF s level t j = r) : Calls Tryz.prog 84 #[s.val, .int .i64 (level : Int), .int .i64 (t : Int), .int .i64 (j : Int)] w (NmPost w r) := by
  have hr2 : sumF (48 :: (s.bytes ++ [UInt8.ofNat level, UInt8.ofNat (t / 256), UInt8.ofNat t, UInt8.ofNat j])) = r := hr
  have Hr := Lib.hid hr2; clear hr hr2
  have h1 := bn_eq level (by omega)
  have h2 := bn_eq (t / 256) (by omega)
  have h3 := bn_eq t (by omega)
  have h4 := bn_eq j (by omega)
  generalize UInt8.ofNat level = b1 at *
  generalize UInt8.ofNat (t / 256) = b2 at *
  generalize UInt8.ofNat t = b3 at *
  generalize UInt8.ofNat j = b4 at *
  have HB : Hid ([B b1, B b2, B b3, B b4] = [.int .u8 (level : Int), .int .u8 ((t : Int) / 256), .int .u8 (t : Int), .int .u8 (j : Int)]) := by rw [h1, h2, h3, h4]; rfl
  clear h1 h2 h3 h4
  go_enter Tryz.func84, Tryz.ntmps84
  go_upto_region 1 with fail
  have hX : Blk ((w.alloc (Obj.cells s.cells 29)).alloc (Obj.cells zero8 29)) w.heap.size 29 s.cells := (Blk.new w _ _).alloc _
  have hR : Blk ((w.alloc (Obj.cells s.cells 29)).alloc (Obj.cells zero8 29)) (w.heap.size + 1) 29 zero8 := by
    have := Blk.new (w.alloc (Obj.cells s.cells 29)) 29 zero8
    simpa using this
  have hb : Below w.heap.size w ((w.alloc (Obj.cells s.cells 29)).alloc (Obj.cells zero8 29)) := ((Below.refl _ _).alloc (Nat.le_refl _) _).alloc (by simp) _
  generalize ((w.alloc (Obj.cells s.cells 29)).alloc (Obj.cells zero8 29)) = W at *
  have hltX := hX.lt
  have hmade : Hid ((W.alloc (.cells #[] 5)).ownsRow w.heap.size 5 1 (.slice (some ⟨W.heap.size, 0, none⟩) 0 0) 0 []) := own_base (World.ownsRow_made W #[] 0 (Nat.le_refl _) (by unfold maxLen; omega) rfl) hb.size
  have hrdX : Hid (Rd (W.alloc (.cells #[] 5)) (W.alloc (.cells #[] 5)).heap.size (some ⟨w.heap.size, 0, none⟩) (s.bytes.map B)) := by
    unfold Hid
    have h := Rd.of_blk (hX.alloc (.cells #[] 5)) 0 8
    simpa [Nm.bytes] using h
  have hb1 := hb.alloc hb.size (.cells #[] 5)
  have HT : Hid (∀ (A4 : Option Addr) (c4 : Nat) (w4 : World), w4.ownsRow w.heap.size 5 1 (.slice A4 (8 + 4) c4) (8 + 4) (s.bytes.map B ++ [B b1, B b2, B b3, B b4]) → Calls Tryz.prog 86 #[.int .u8 48, .slice A4 (8 + 4) c4] w4 (NmPost w4 r)) := fun A4 c4 w4 ho => by
    have e : s.bytes.map B ++ [B b1, B b2, B b3, B b4] = (s.bytes ++ [b1, b2, b3, b4]).map B := by simp
    rw [e] at ho
    exact rtagged_core 48 A4 c4 (s.bytes ++ [b1, b2, b3, b4]) r w4 (Rd.of_own ho) (by simp [Nm.bytes]) Hr.out
  go_wp2_with (first
    | (at_builtin; refine wpList_app rfl (.tmp 9) (.tmp 10) _ rfl w.heap.size 5 (.int .u8 0) 1 1 Tryz.underlying32 info_byte rfl (by decide) (.slice (some ⟨W.heap.size, 0, none⟩) 0 0) 0 [] rfl hmade.out (W.alloc (.cells #[] 5)).heap.size (some ⟨w.heap.size, 0, none⟩) 8 8 (s.bytes.map B) rfl rfl hrdX.out (fun u hu => bytes_one hu) (by omega) (by unfold maxLen; omega) hb1.size ?_; intro v2 w2 hown2 hg2 hat2; have hR2 := (hR.alloc (.cells #[] 5)).kept hg2 (own_ne hmade.out (hR.alloc _) (by decide)); have hb2 := below_own hb1 hmade.out hg2)
    | (at_builtin; refine wpList_app rfl (.tmp 11) (.tmp 21) _ rfl w.heap.size 5 (.int .u8 0) 1 1 Tryz.underlying32 info_byte rfl (by decide) _ (0 + 8) _ rfl (hown2.alloc _) (w2.heap.size + 1) _ 4 4 [B b1, B b2, B b3, B b4] rfl rfl (by rw [HB.out]; have h := Rd.of_blk (Blk.new w2 5 #[.int .u8 (level : Int), .int .u8 ((t : Int) / 256), .int .u8 (t : Int), .int .u8 (j : Int)]) 0 4; simpa using h) (fun u hu => bytes_one (l := [b1, b2, b3, b4]) hu) (by omega) (by unfold maxLen; omega) (by have := hb2.size; simp; omega) ?_; intro v4 w4 hown4 hg4 hat4; have hR4 := (hR2.alloc _).kept hg4 (own_ne hown2 hR2 (by decide)); have hbw4 := below_own (hb2.alloc hb2.size _) (hown2.alloc _) hg4; obtain ⟨A4, c4, hv4⟩ := own_form hown4; subst hv4)
    | (go_at_call 86; refine (HT.out A4 c4 w4 (by simpa using hown4)).mono ?_; rintro en w5 ⟨rfl, hb5⟩; have hR5 := hR4.below hb5 hR4.lt; have hbw5 := hbw4.trans (hb5.mono hbw4.size))
    | (refine wpList_store_blk rfl 29 (.tmp 8) (.tmp 23) rfl (w.heap.size + 1) _ rfl rfl 29 _ hR5 rfl size_name (fun u hu => one_nm r hu) ?_))
  intro w6 hR6 hg6 hs6
  have hbw6 : Below w.heap.size w w6 := hbw5.grown hg6 hbw5.size (by rintro j ⟨⟩; omega)
  go_wp2
  exact bodyPost_ret (results_cell_row (g := w.heap.size + 1) rfl _ _ _ _ _ _ rfl hR6 Tryz.underlying29 rfl size_name) rfl ⟨rfl, hbw6⟩
end Go.Proofs.YthmecidpjlaonaaGreat
namespace Go.Proofs.YthmecidpjlaonaaGreat
open Go.RowKit
attribute [local go_sem ↓] Go.wp_at_zero Go.wp_at_succ loadNm
attribute [local go_sem] runNm pickRow_some rowAt_drew rowAt_drewN

set_option maxRecDepth 100000 in
set_option maxHeartbeats 2000000 in
theorem ropublic_core (s r : Nm) (w : World) (hr : opubF s = r) : Calls Tryz.prog 89 #[s.val] w (NmPost w r) := by
  have Hr := Lib.hid hr
  clear hr
  go_enter Tryz.func89, Tryz.ntmps89
  go_upto_region 1 with fail
  have hX : Blk ((w.alloc (Obj.cells s.cells 29)).alloc (Obj.cells zero8 29)) w.heap.size 29 s.cells := (Blk.new w _ _).alloc _
  have hR : Blk ((w.alloc (Obj.cells s.cells 29)).alloc (Obj.cells zero8 29)) (w.heap.size + 1) 29 zero8 := by
    have := Blk.new (w.alloc (Obj.cells s.cells 29)) 29 zero8
    simpa using this
  have hbW : Below w.heap.size w ((w.alloc (Obj.cells s.cells 29)).alloc (Obj.cells zero8 29)) := ((Below.refl _ _).alloc (Nat.le_refl _) _).alloc (by simp) _
  generalize ((w.alloc (Obj.cells s.cells 29)).alloc (Obj.cells zero8 29)) = W at *
  try go_frame
  go_wp2
  go_loopw [3, 4] (fun v i wr => ∃ k : Nat, k ≤ 18 ∧ i = .int .i64 k ∧ wr.ownsRow (w.heap.size + 1 + 1) 29 8 v k (((List.range k).map (chainEnd s)).flatMap nmc) ∧ Blk wr w.heap.size 29 s.cells ∧ Blk wr (w.heap.size + 1) 29 zero8 ∧ Below w.heap.size w wr)
    (fun _ i _ => 18 - (intOf i).toNat)
  case atStart => exact ⟨0, by omega, rfl, ⟨rfl, .inl ⟨rfl, rfl⟩⟩, hX, hR, hbW⟩
  case round =>
    clear hX hR hbW
    obtain ⟨k, hk, rfl, hN, hX, hR, hb⟩ := hrel
    by_cases hlt : k < 18
    · have e1 := mapRange_snoc (chainEnd s) k
      have E1 := Lib.hid e1; clear e1
      generalize (List.range k).map (chainEnd s) = nl at *
      obtain ⟨y, hy⟩ : ∃ y, chainEnd s k = y := ⟨_, rfl⟩
      obtain ⟨x, hx⟩ : ∃ x, startF s k = x := ⟨_, rfl⟩
      have e3 : walkF x k 0 (15 - 0) = y := by rw [← hx, ← hy]; rfl
      have HS : Hid (∀ W, Calls Tryz.prog 126 #[s.val, .int .i64 (k : Int)] W (NmPost W x)) := fun W => rstart_core s x k W (by omega) hx
      have HW : Hid (∀ W, Calls Tryz.prog 125 #[x.val, .int .i64 (k : Int), .int .i64 0, .int .i64 15] W (NmPost W y)) := fun W => by
        rw [← e3]; exact chain_any x k 0 15 W (by omega) (by omega) (by omega)
      rw [hy] at E1
      clear hx hy e3
      have x0 : rowAt wr w.heap.size 0 8 = some s.cells := hX.row 8 rfl
      obtain ⟨kk, hkk⟩ : ∃ kk, kk = nl.flatMap nmc := ⟨_, rfl⟩
      rw [← hkk] at hN
      have Hkk := Lib.hid hkk; clear hkk
      have hRs := hR.lt
      go_wp2_with (first
        | (go_at_call 126; refine (HS.out _).mono ?_; rintro en w2 ⟨rfl, hb2⟩; have hN2 := own_below hN hb2 (Nat.le_refl _); have hX2 := hX.below hb2 hX.lt; have hR2 := hR.below hb2 hR.lt; have hbw2 := hb.trans (hb2.mono hb.size); clear HS)
        | (go_at_call 125; refine (HW.out _).mono ?_; rintro en w3 ⟨rfl, hb3⟩; have hN3 := own_below hN2 hb3 (Nat.le_refl _); have hX3 := hX2.below hb3 hX2.lt; have hR3 := hR2.below hb3 hR2.lt; have hbw3 := hbw2.trans (hb3.mono hbw2.size); have hs3 : w.heap.size + 1 + 1 ≤ w3.heap.size := Nat.le_trans hRs (Nat.le_trans hb2.size hb3.size); clear HW)
        | (at_builtin; refine wpList_app rfl (.tmp 9) (.tmp 15) _ rfl (w.heap.size + 1 + 1) 29 (Nm.val ⟨0, 0, 0, 0, 0, 0, 0, 0⟩) 8 8 Tryz.underlying22 info_name rfl (by decide) _ k kk rfl (hN3.alloc _) (w3.heap.size + 1) _ 1 1 (nmc y) rfl rfl (by have h := Rd.of_blk (Blk.new w3 29 y.cells) 0 8; simpa using h) (fun u hu => names_one (l := [y]) (by simpa using hu)) (by omega) (by unfold maxLen; omega) (by simp; omega) ?_; intro v4 w4 hN4 hg4 hat4; have hX4 := (hX3.alloc _).kept hg4 (own_lo hN3 (by omega)); have hR4 := (hR3.alloc _).kept hg4 (own_lo hN3 (by omega)); have hbw4 : Below w.heap.size w w4 := (hbw3.alloc hbw3.size _).grown hg4 (by have := hbw3.size; simp; omega) (fun j hj => by have := (hN3.lt _ hj).1; omega)))
      clear hN hX hR hb hb2 hN2 hX2 hR2 hbw2 hb3 hN3 hX3 hR3 hbw3 hg4 hat4 x0 hs3 hRs
      go_wp2
      go_roundw
      case rel => exact ⟨k + 1, by omega, by go_num, by rw [E1.out, List.flatMap_append, ← Hkk.out]; simpa using hN4, hX4, hR4, hbw4⟩
      case measure => simp [intOf]; omega
    · obtain rfl : k = 18 := by omega
      obtain ⟨A2, c2, rfl⟩ := own_form hN
      have hcall : Calls Tryz.prog 128 #[.slice A2 18 c2] wr (NmPost wr r) := by
        have h := ends_any A2 c2 ((List.range 18).map (chainEnd s)) wr (Rd.of_own hN) (by simp)
        rw [List.length_map, List.length_range] at h
        rw [← Hr.out]
        exact h
      have HC := Lib.hid hcall
      clear hcall hN hX
      go_wp2_with (first
        | (go_at_call 128; refine HC.out.mono ?_; rintro en w3 ⟨rfl, hb3⟩; have hR3 := hR.below hb3 hR.lt; have hbw3 := hb.trans (hb3.mono hb.size))
        | (refine wpList_store_blk rfl 29 (.tmp 2) (.tmp 18) rfl (w.heap.size + 1) _ rfl rfl 29 _ hR3 rfl size_name (fun u hu => one_nm r hu) ?_))
      intro w4 hR4 hg4 hs4
      have hbw4 : Below w.heap.size w w4 := hbw3.grown hg4 hbw3.size (by rintro j ⟨⟩; omega)
      go_wp2
      exact bodyPost_ret (results_cell_row (g := w.heap.size + 1) rfl _ _ _ _ _ _ rfl hR4 Tryz.underlying29 rfl size_name) rfl ⟨rfl, hbw4⟩

set_option maxRecDepth 100000 in
set_option maxHeartbeats 2000000 in
theorem rleaves_any (s : Nm) (level t : Nat) (w : World) (hl : level ≤ 2) (ht : t < 32) : Calls Tryz.prog 55 #[s.val, .int .i64 (level : Int), .int .i64 (t : Int)] w (RowPost w 29 8 32 ((treeF s level t).flatMap nmc)) := by
  go_enter Tryz.func55, Tryz.ntmps55
  go_upto_region 1 with fail
  have hX : Blk (w.alloc (Obj.cells s.cells 29)) w.heap.size 29 s.cells := Blk.new w _ _
  have hbW : Below w.heap.size w (w.alloc (Obj.cells s.cells 29)) := (Below.refl _ _).alloc (Nat.le_refl _) _
  generalize (w.alloc (Obj.cells s.cells 29)) = W at *
  try go_frame
  go_wp2
  go_loopw [7, 8] (fun v i wr => ∃ k : Nat, k ≤ 32 ∧ i = .int .i64 k ∧ wr.ownsRow (w.heap.size + 1) 29 8 v k (((List.range k).map (leafAt s level t)).flatMap nmc) ∧ Blk wr w.heap.size 29 s.cells ∧ Below w.heap.size w wr)
    (fun _ i _ => 32 - (intOf i).toNat)
  case atStart => exact ⟨0, by omega, rfl, ⟨rfl, .inl ⟨rfl, rfl⟩⟩, hX, hbW⟩
  case round =>
    clear hX hbW
    obtain ⟨k, hk, rfl, hN, hX, hb⟩ := hrel
    by_cases hlt : k < 32
    · have e1 := mapRange_snoc (leafAt s level t) k
      have E1 := Lib.hid e1; clear e1
      generalize (List.range k).map (leafAt s level t) = nl at *
      obtain ⟨y, hy⟩ : ∃ y, leafAt s level t k = y := ⟨_, rfl⟩
      obtain ⟨x, hx⟩ : ∃ x, seedF s level t k = x := ⟨_, rfl⟩
      have e3 : opubF x = y := by rw [← hx, ← hy]; rfl
      have HS : Hid (∀ W, Calls Tryz.prog 84 #[s.val, .int .i64 (level : Int), .int .i64 (t : Int), .int .i64 (k : Int)] W (NmPost W x)) := fun W => rkey_core s x level t k W hl ht hlt hx
      have HW : Hid (∀ W, Calls Tryz.prog 89 #[x.val] W (NmPost W y)) := fun W => ropublic_core x y W e3
      rw [hy] at E1
      clear hx hy e3
      have x0 : rowAt wr w.heap.size 0 8 = some s.cells := hX.row 8 rfl
      obtain ⟨kk, hkk⟩ : ∃ kk, kk = nl.flatMap nmc := ⟨_, rfl⟩
      rw [← hkk] at hN
      have Hkk := Lib.hid hkk; clear hkk
      have hXs := hX.lt
      go_wp2_with (first
        | (go_at_call 84; refine (HS.out _).mono ?_; rintro en w2 ⟨rfl, hb2⟩; have hN2 := own_below hN hb2 (Nat.le_refl _); have hX2 := hX.below hb2 hX.lt; have hbw2 := hb.trans (hb2.mono hb.size); clear HS)
        | (go_at_call 89; refine (HW.out _).mono ?_; rintro en w3 ⟨rfl, hb3⟩; have hN3 := own_below hN2 hb3 (Nat.le_refl _); have hX3 := hX2.below hb3 hX2.lt; have hbw3 := hbw2.trans (hb3.mono hbw2.size); have hs3 : w.heap.size + 1 ≤ w3.heap.size := Nat.le_trans hXs (Nat.le_trans hb2.size hb3.size); clear HW)
        | (at_builtin; refine wpList_app rfl (.tmp 13) (.tmp 20) _ rfl (w.heap.size + 1) 29 (Nm.val ⟨0, 0, 0, 0, 0, 0, 0, 0⟩) 8 8 Tryz.underlying22 info_name rfl (by decide) _ k kk rfl (hN3.alloc _) (w3.heap.size + 1) _ 1 1 (nmc y) rfl rfl (by have h := Rd.of_blk (Blk.new w3 29 y.cells) 0 8; simpa using h) (fun u hu => names_one (l := [y]) (by simpa using hu)) (by omega) (by unfold maxLen; omega) (by simp; omega) ?_; intro v4 w4 hN4 hg4 hat4; have hX4 := (hX3.alloc _).kept hg4 (own_lo hN3 (by omega)); have hbw4 : Below w.heap.size w w4 := (hbw3.alloc hbw3.size _).grown hg4 (by have := hbw3.size; simp; omega) (fun j hj => by have := (hN3.lt _ hj).1; omega)))
      clear hN hX hb hb2 hN2 hX2 hbw2 hb3 hN3 hX3 hbw3 hg4 hat4 x0 hs3 hXs
      go_wp2
      go_roundw
      case rel => exact ⟨k + 1, by omega, by go_num, by rw [E1.out, List.flatMap_append, ← Hkk.out]; simpa using hN4, hX4, hbw4⟩
      case measure => simp [intOf]; omega
    · obtain rfl : k = 32 := by omega
      obtain ⟨A2, c2, rfl⟩ := own_form hN
      clear hX
      go_wp2
      go_ret
      exact ⟨A2, c2, rfl, own_base hN (by omega), hb⟩

/-- Names that lie in a block of names of their own. -/
def NamesIn (w : World) (A : Option Addr) (l : List Nm) : Prop :=
  l = [] ∨ ∃ g o cur, A = some ⟨g, o, none⟩ ∧ Blk w g 29 cur ∧ ∀ k x, l[k]? = some x → ∀ j u, x.cells[j]? = some u → cur[o + k * 8 + j]? = some u
theorem NamesIn.own {w : World} {base n c : Nat} {A : Option Addr} {l : List Nm} (h : w.ownsRow base 29 8 (.slice A n c) n (l.flatMap nmc)) : NamesIn w A l := by
  by_cases hl : l = []
  · exact .inl hl
  · obtain ⟨g, o, rfl, _⟩ := rd_addr (Rd.of_own h) (List.length_pos_iff.2 hl)
    obtain ⟨cur, hc⟩ := own_blk h
    refine .inr ⟨g, o, cur, rfl, hc, fun k x hk j u hu => ?_⟩
    obtain ⟨b', o', e, _, h3⟩ := Rd.name (Rd.of_own h) hk
    injection e with e; injection e with e1 e2; subst e1; subst e2
    have := h3 j u hu
    rwa [hc.cell] at this
theorem NamesIn.below {w w' : World} {A : Option Addr} {l : List Nm} (h : NamesIn w A l) (hb : Below w.heap.size w w') : NamesIn w' A l := by
  rcases h with h | ⟨g, o, cur, h1, h2, h3⟩
  · exact .inl h
  · exact .inr ⟨g, o, cur, h1, h2.below hb h2.lt, h3⟩
theorem NamesIn.far {w w' : World} {A : Option Addr} {l : List Nm} {base n : Nat} {v : Value} {xs : List Value} (h : NamesIn w A l) (ho : w.ownsRow base 5 1 v n xs) (hg : w.grownBy w' v.ownBlock) : NamesIn w' A l := by
  rcases h with h | ⟨g, o, cur, h1, h2, h3⟩
  · exact .inl h
  · exact .inr ⟨g, o, cur, h1, h2.kept hg (own_ne ho h2 (by decide)), h3⟩

/-- Blocks that hold no bytes are as they were. -/
def KeepTy (w w' : World) : Prop := ∀ g t cur, 5 ≠ t → Blk w g t cur → Blk w' g t cur
theorem KeepTy.refl (w : World) : KeepTy w w := fun _ _ _ _ h => h
theorem KeepTy.trans {w w1 w2 : World} (h : KeepTy w w1) (h' : KeepTy w1 w2) : KeepTy w w2 := fun g t cur ht hB => h' g t cur ht (h g t cur ht hB)
theorem KeepTy.own {w w' : World} {base n : Nat} {v : Value} {xs : List Value} (ho : w.ownsRow base 5 1 v n xs) (hg : w.grownBy w' v.ownBlock) : KeepTy w w' := fun _ _ _ ht hB => hB.kept hg (own_ne ho hB ht)
theorem KeepTy.names {w w' : World} {A : Option Addr} {l : List Nm} (h : NamesIn w A l) (hk : KeepTy w w') : NamesIn w' A l := by
  rcases h with h | ⟨g, o, cur, h1, h2, h3⟩
  · exact .inl h
  · exact .inr ⟨g, o, cur, h1, hk _ _ _ (by decide) h2, h3⟩

set_option maxRecDepth 100000 in
set_option maxHeartbeats 2000000 in
theorem rnames_any (A0 A : Option Addr) (n c0 c base m : Nat) (xs : List Value) (l : List Nm) (w : World) (hm : l.length = m) (hown : w.ownsRow base 5 1 (.slice A0 n c0) n xs) (hL : NamesIn w A l) (hbase : base ≤ w.heap.size) (hn : n ≤ 1000) (hm2 : m ≤ 1000) :
    Calls Tryz.prog 82 #[.slice A0 n c0, .slice A m c] w fun e w' => ∃ A' c', e = .returned (.slice A' (n + 8 * m) c') ∧ w'.ownsRow base 5 1 (.slice A' (n + 8 * m) c') (n + 8 * m) (xs ++ (l.flatMap Nm.bytes).map B) ∧ Below base w w' ∧ KeepTy w w' := by
  have HM := Lib.hid hm; clear hm
  go_enter Tryz.func82, Tryz.ntmps82
  go_wp2
  go_loopw [0, 5] (fun v i wr => ∃ k : Nat, k ≤ m ∧ i = .int .i64 k ∧ wr.ownsRow base 5 1 v (n + 8 * k) (xs ++ ((l.take k).flatMap Nm.bytes).map B) ∧ NamesIn wr A l ∧ Below base w wr ∧ base ≤ wr.heap.size ∧ KeepTy w wr)
    (fun _ i _ => m - (intOf i).toNat)
  case atStart => exact ⟨0, by omega, rfl, by simpa using hown, hL, Below.refl _ _, hbase, KeepTy.refl _⟩
  case round =>
    clear hown hL hbase
    obtain ⟨k, hk, rfl, hown, hL, hb, hs, hkt⟩ := hrel
    by_cases hlt : k < m
    · obtain ⟨x, hx⟩ : ∃ x, l[k]? = some x := ⟨_, List.getElem?_eq_getElem (by rw [HM.out]; exact hlt)⟩
      have e1 := fb_snoc l k x hx
      have E1 := Lib.hid e1; clear e1
      have HL := Lib.hid hL
      rcases hL with hL | ⟨g, o, cur, rfl, hC, hcur⟩
      · rw [hL] at hx; simp at hx
      have HKt := Lib.hid hkt
      clear hkt
      have hcell : Hid (Rd wr wr.heap.size (some ⟨g, o + k * 8, none⟩) (x.bytes.map B)) := .inr ⟨g, o + k * 8, rfl, hC.lt, fun j u hu => by
        rw [hC.cell]
        exact hcur k x hx j u (by rw [← hu]; simp [Nm.bytes])⟩
      generalize List.flatMap Nm.bytes (l.take k) = bs at *
      have ltC := hC.lt
      have i1 : (0 : Int) ≤ (k : Int) := by omega
      have i2 : (k : Int) < (m : Int) := by omega
      clear hx hC hcur
      go_wp2_with (at_builtin; refine wpList_app rfl (.tmp 12) (.tmp 16) _ rfl base 5 (.int .u8 0) 1 1 Tryz.underlying32 info_byte rfl (by decide) _ (n + 8 * k) _ rfl hown wr.heap.size _ 8 8 (x.bytes.map B) rfl rfl hcell.out (fun u hu => bytes_one hu) (by omega) (by unfold maxLen; omega) hs ?_)
      intro v3 w3 hown3 hg3 hat3
      have hL3 := HL.out.far hown hg3
      have hb3 : Below base w w3 := hb.grown hg3 hs (fun j hj => (hown.lt _ hj).1)
      have hs3 : base ≤ w3.heap.size := Nat.le_trans hs hg3.size
      have hkt3 := Lib.hid (HKt.out.trans (KeepTy.own hown hg3))
      clear HKt hown HL hb hs hg3 hat3 hcell ltC
      go_wp2
      go_roundw
      case rel => exact ⟨k + 1, by omega, by go_num, by rw [E1.out, List.map_append, show n + 8 * (k + 1) = n + 8 * k + 8 from by omega]; exact hown3, hL3, hb3, hs3, hkt3.out⟩
      case measure => simp [intOf]; omega
    · obtain rfl : k = m := by omega
      rw [List.take_of_length_le (by rw [HM.out]; exact Nat.le_refl _)] at hown
      obtain ⟨A8, c8, rfl⟩ := own_form hown
      clear hL
      go_wp2
      go_ret
      exact ⟨A8, c8, rfl, hown, hb, hkt⟩

set_option maxRecDepth 100000 in
set_option maxHeartbeats 4000000 in
theorem rosign_any (s m : Nm) (w : World) : Calls Tryz.prog 83 #[s.val, m.val] w (RowPost w 29 8 18 ((osignF s m).flatMap nmc)) := by
  go_enter Tryz.func83, Tryz.ntmps83
  go_upto_region 1 with fail
  have hX : Blk ((w.alloc (Obj.cells s.cells 29)).alloc (Obj.cells m.cells 29)) w.heap.size 29 s.cells := (Blk.new w _ _).alloc _
  have hM : Blk ((w.alloc (Obj.cells s.cells 29)).alloc (Obj.cells m.cells 29)) (w.heap.size + 1) 29 m.cells := by
    have := Blk.new (w.alloc (Obj.cells s.cells 29)) 29 m.cells
    simpa using this
  have hbW : Below w.heap.size w ((w.alloc (Obj.cells s.cells 29)).alloc (Obj.cells m.cells 29)) := ((Below.refl _ _).alloc (Nat.le_refl _) _).alloc (by simp) _
  have xM := hM.row 8 rfl
  have hMlt := hM.lt
  generalize ((w.alloc (Obj.cells s.cells 29)).alloc (Obj.cells m.cells 29)) = W at *
  clear hM
  try go_frame
  go_upto_region 2 with (go_at_call 124; refine (rdigits_any m W).mono ?_; rintro en w1 ⟨A1, c1, rfl, hown, hb1⟩)
  replace hX := hX.below hb1 hX.lt
  replace hown := own_base hown (Nat.le_of_lt hMlt)
  have hw1 : w.heap.size + 1 + 1 ≤ w1.heap.size := Nat.le_trans hMlt hb1.size
  replace hbW := hbW.trans (hb1.mono hbW.size)
  clear hb1 xM hMlt
  have hdl := digits_length m
  have hdle := digits_le m
  obtain ⟨gd, od, rfl, _, _⟩ := (Rd.of_own hown).cells (by intro e; rw [List.map_eq_nil_iff] at e; rw [e] at hdl; simp at hdl)
  obtain ⟨ds, hds⟩ : ∃ ds, ds = digits m := ⟨_, rfl⟩
  rw [← hds] at hown hdl hdle
  have Hds := Lib.hid hds; clear hds
  have Hdl := Lib.hid hdl; clear hdl
  have Hdle := Lib.hid hdle; clear hdle
  obtain ⟨curd, hD⟩ := own_blk hown
  have HDc : Hid (∀ k d, ds[k]? = some d → curd[od + k]? = some (N d)) := fun k d hk => by
    obtain ⟨gd', od', he, _, hc⟩ := (Rd.of_own hown).cells (by intro e; rw [e] at hown; have := hown.1; simp at this)
    injection he with he
    injection he with h1 h2
    subst h1; subst h2
    have h3 := hc k (N d) (by rw [List.getElem?_map, hk]; rfl)
    rwa [hD.cell] at h3
  clear hown
  try go_frame
  go_wp2_with fail
  go_loopw [6, 7] (fun v i wr => ∃ k : Nat, k ≤ 18 ∧ i = .int .i64 k ∧ wr.ownsRow (w.heap.size + 1 + 1) 29 8 v k (((List.range k).map (chainAt s m)).flatMap nmc) ∧ Blk wr w.heap.size 29 s.cells ∧ Blk wr gd 3 curd ∧ Below w.heap.size w wr ∧ w.heap.size + 1 + 1 ≤ wr.heap.size)
    (fun _ i _ => 18 - (intOf i).toNat)
  case atStart => exact ⟨0, by omega, rfl, ⟨rfl, .inl ⟨rfl, rfl⟩⟩, hX, hD, hbW, hw1⟩
  case round =>
    clear hX hD hbW hw1
    obtain ⟨k, hk, rfl, hN, hX, hD, hb, hs⟩ := hrel
    by_cases hlt : k < 18
    · have e1 := mapRange_snoc (chainAt s m) k
      have E1 := Lib.hid e1; clear e1
      generalize (List.range k).map (chainAt s m) = nl at *
      have hdk := getD_some 0 (l := ds) (k := k) (by rw [Hdl.out]; exact hlt)
      have hd15 := Hdle.out _ (List.mem_of_getElem? hdk)
      obtain ⟨y, hy⟩ : ∃ y, chainAt s m k = y := ⟨_, rfl⟩
      obtain ⟨x, hx⟩ : ∃ x, startF s k = x := ⟨_, rfl⟩
      have e3 : walkF x k 0 (ds.getD k 0 - 0) = y := by rw [← hx, ← hy, Hds.out]; rfl
      have hcd := HDc.out k _ hdk
      generalize ds.getD k 0 = d at *
      have HS : Hid (∀ W, Calls Tryz.prog 126 #[s.val, .int .i64 (k : Int)] W (NmPost W x)) := fun W => rstart_core s x k W (by omega) hx
      have HW : Hid (∀ W, Calls Tryz.prog 125 #[x.val, .int .i64 (k : Int), .int .i64 0, .int .i64 (d : Int)] W (NmPost W y)) := fun W => by
        rw [← e3]; exact chain_any x k 0 d W (by omega) (by omega) (by omega)
      rw [hy] at E1
      have HDk := Lib.hid hdk
      clear hx hy e3 hdk
      obtain ⟨kk, hkk⟩ : ∃ kk, kk = nl.flatMap nmc := ⟨_, rfl⟩
      rw [← hkk] at hN
      have Hkk := Lib.hid hkk; clear hkk
      have HSt : Hid (∀ V, Below wr.heap.size wr V → rowAt V w.heap.size 0 8 = some s.cells ∧ V.cell? ⟨gd, od + k, none⟩ = some (N d)) := fun V hV => ⟨(hX.below hV hX.lt).row 8 rfl, by rw [(hD.below hV hD.lt).cell]; exact hcd⟩
      have i1 : (0 : Int) ≤ (k : Int) := by omega
      have i2 : (k : Int) < 18 := by omega
      have hb0 : Below wr.heap.size wr wr := Below.refl _ _
      have HX := Lib.hid hX
      have HD := Lib.hid hD
      clear hX hD hcd
      go_upto_region 6 with fail
      refine wp_region_noPanic ?_
      refine wp_region_held_drew (S := fun w' => rowAt w' w.heap.size 0 8 = some s.cells ∧ w'.cell? ⟨gd, od + k, none⟩ = some (N d)) (by kernel_rfl) (HSt.out _ hb0.drew) (fun hHeld => ?_)
      refine wpAnyH_takeD (some 14) (i := 0) (v := ?vh1_0) rfl rfl (by kernel_rfl) (by kernel_rfl) (by kernel_rfl) (fun _ _ _ h => h) (by rfl) ?hh1_0 (by assumption) ?_
      case hh1_0 => (intro wq hSw; (try dsimp only at hSw); go_simp; (try (with_reducible rfl)))
      go_frame
      refine wpAnyH_takeD (some 15) (i := 1) (v := ?vh1_1) rfl rfl (by kernel_rfl) (by kernel_rfl) (by kernel_rfl) (fun _ _ _ h => h) (by rfl) ?hh1_1 (by assumption) ?_
      case hh1_1 => (intro wq hSw; (try dsimp only at hSw); go_simp; (try (with_reducible rfl)))
      go_frame
      refine wpAnyH_takeD (some 16) (i := 2) (v := ?vh1_2) rfl rfl (by kernel_rfl) (by kernel_rfl) (by kernel_rfl) (fun _ _ _ h => h) (by rfl) ?hh1_2 (by assumption) ?_
      case hh1_2 => (intro wq hSw; (try dsimp only at hSw); go_simp; (try (with_reducible rfl)))
      go_frame
      refine wpAnyH_takeD (some 18) (i := 4) (v := ?vh1_4) rfl rfl (by kernel_rfl) (by kernel_rfl) (by kernel_rfl) (fun _ _ _ h => h) (by rfl) ?hh1_4 (by assumption) ?_
      case hh1_4 => (intro wq hSw; (try dsimp only at hSw); go_simp; (try (with_reducible rfl)))
      go_frame
      refine wpAnyH_takeD (some 19) (i := 5) (v := ?vh1_5) rfl rfl (by kernel_rfl) (by kernel_rfl) (by kernel_rfl) (fun _ _ _ h => h) (by rfl) ?hh1_5 (by assumption) ?_
      case hh1_5 => (intro wq hSw; (try dsimp only at hSw); go_simp; (try (with_reducible rfl)))
      go_frame
      refine wpAnyH_takeD (some 20) (i := 6) (v := ?vh1_6) rfl rfl (by kernel_rfl) (by kernel_rfl) (by kernel_rfl) (fun _ _ _ h => h) (by rfl) ?hh1_6 (by assumption) ?_
      case hh1_6 => (intro wq hSw; (try dsimp only at hSw); go_simp; (try (with_reducible rfl)))
      go_frame
      refine wpAnyH_takeD (some 21) (i := 7) (v := ?vh1_7) rfl rfl (by kernel_rfl) (by kernel_rfl) (by kernel_rfl) (fun _ _ _ h => h) (by rfl) ?hh1_7 (by assumption) ?_
      case hh1_7 => (intro wq hSw; (try dsimp only at hSw); go_simp; (try (with_reducible rfl)))
      go_frame
      refine wpAnyH_takeD (some 22) (i := 8) (v := ?vh1_8) rfl rfl (by kernel_rfl) (by kernel_rfl) (by kernel_rfl) (fun _ _ _ h => h) (by rfl) ?hh1_8 (by assumption) ?_
      case hh1_8 => (intro wq hSw; (try dsimp only at hSw); go_simp; (try (with_reducible rfl)))
      go_frame
      refine wpAnyH_ready (rs := [3]) (by kernel_rfl) (by simp) ?_
      refine AllReadyH.cons rfl (fun K hK => ?_) AllReadyH.nil
      go_simp
      refine (HS.out _).mono ?_; rintro en w2 ⟨rfl, hb2⟩; have hbx2 := hb0.drew.trans (hb2.mono (Nat.le_refl _)); have hN2 := own_below (own_drew hN) hb2 (Nat.le_refl _)
      go_wp2_with fail
      refine hK.out _ _ (HSt.out _ hbx2) (fun hHeld => ?_)
      clear hK K
      try go_frame
      refine wpAnyH_ready (rs := [9]) (by kernel_rfl) (by simp) ?_
      refine AllReadyH.cons rfl (fun K hK => ?_) AllReadyH.nil
      go_simp
      refine (HW.out _).mono ?_; rintro en w3 ⟨rfl, hb3⟩; have hbx3 := hbx2.trans (hb3.mono hbx2.size); have hN3 := own_below hN2 hb3 (Nat.le_refl _); have hs3 : w.heap.size + 1 + 1 ≤ w3.heap.size := Nat.le_trans hs hbx3.size
      go_wp2_with fail
      refine hK.out _ _ (HSt.out _ hbx3) (fun hHeld => ?_)
      clear hK K
      try go_frame
      refine wpAnyH_ready (rs := [10]) (by kernel_rfl) (by simp) ?_
      refine AllReadyH.cons rfl (fun K hK => ?_) AllReadyH.nil
      go_simp
      refine hK.out _ _ (HSt.out _ (hbx3.alloc hbx3.size _)) (fun hHeld => ?_)
      clear hK K
      try go_frame
      refine wpAnyH_ready (rs := [11]) (by kernel_rfl) (by simp) ?_
      refine AllReadyH.cons rfl (fun K hK => ?_) AllReadyH.nil
      rw [if_pos (by rfl)]
      refine wp_appD (some 25) rfl (.tmp 14) (.tmp 24) _ (by rfl) (w.heap.size + 1 + 1) 29 (Nm.val ⟨0, 0, 0, 0, 0, 0, 0, 0⟩) 8 8 Tryz.underlying22 info_name rfl (by decide) _ k kk (by rfl) (hN3.alloc _) (w3.heap.size + 1) _ 1 1 (nmc y) (by rfl) rfl (by have h := Rd.of_blk (Blk.new w3 29 y.cells) 0 8; simpa using h) (fun u hu => names_one (l := [y]) (by simpa using hu)) (by omega) (by unfold maxLen; omega) (by simp; omega) ?_; intro v4 w4 hN4 hg4 hat4; have hbx4 := hbx3.alloc hbx3.size (.cells y.cells 29); have hbw4 : Below w.heap.size w w4 := (hb.trans (hbx4.mono hb.size)).grown hg4 (Nat.le_trans hb.size hbx4.size) (fun j hj => by have := (hN3.lt _ hj).1; omega); have hX4 := (HX.out.below hbx4 HX.out.lt).kept hg4 (own_lo hN3 (by omega)); have hD4 := (HD.out.below hbx4 HD.out.lt).kept hg4 (own_ne hN3 (HD.out.below hbx3 HD.out.lt) (by decide)); have hcd4 : w4.cell? ⟨gd, od + k, none⟩ = some (N d) := by rw [hD4.cell]; exact HDc.out k d HDk.out
      refine hK.out _ _ (⟨hX4.row 8 rfl, hcd4⟩) (fun hHeld => ?_)
      clear hK K
      try go_frame
      refine wpAnyH_takeD (some 6) (i := 12) (v := ?vh1_12) rfl rfl (by kernel_rfl) (by kernel_rfl) (by kernel_rfl) (fun _ _ _ h => h) (by rfl) ?hh1_12 (by assumption) ?_
      case hh1_12 => (intro wq hSw; (try dsimp only at hSw); go_simp; (try (with_reducible rfl)))
      go_frame
      refine wpAnyH_done (by kernel_rfl) ?_ _
      refine NoPanic.normal ?_
      have hs4 : w.heap.size + 1 + 1 ≤ w4.heap.size := Nat.le_trans hs3 (Nat.le_trans (by simp) hg4.size)
      clear hN hb hs HS HW HX HD HSt hN2 hN3 hb2 hb3 hbx2 hbx3 hbx4 hg4 hat4 hb0 hcd4 hHeld HDk hs3
      try go_frame
      go_wp2
      go_roundw
      case rel => exact ⟨k + 1, by omega, by go_num, by rw [E1.out, List.flatMap_append, ← Hkk.out]; simpa using hN4, hX4, hD4, hbw4, hs4⟩
      case measure => simp [intOf]; omega
    · obtain rfl : k = 18 := by omega
      obtain ⟨A2, c2, rfl⟩ := own_form hN
      clear hX hD
      go_wp2
      go_ret
      exact ⟨A2, c2, rfl, own_base hN (by omega), hb⟩
end Go.Proofs.YthmecidpjlaonaaGreat
namespace Go.Proofs.YthmecidpjlaonaaGreat
open Go.RowKit
attribute [local go_sem ↓] Go.wp_at_zero Go.wp_at_succ loadNm
attribute [local go_sem] runNm pickRow_some rowAt_drew rowAt_drewN

set_option maxRecDepth 100000 in
set_option maxHeartbeats 1000000 in
theorem rpath_zero (A : Option Addr) (c : Nat) (w : World) : Calls Tryz.prog 81 #[.slice A 1 c, .int .i64 0] w fun e w' => e = .returned (.tuple #[.slice none 0 0, .bool true]) ∧ w' = w := by
  go_enter Tryz.func81, Tryz.ntmps81
  go_wp2
  go_ret2
  exact ⟨rfl, rfl⟩

set_option maxRecDepth 100000 in
set_option maxHeartbeats 4000000 in
theorem rpath_lt (d i n k c b o : Nat) (p : List Nm) (up : Nm) (w : World) (hk : k = 2 ^ d) (hn : n = 2 ^ (d + 1)) (hd : d ≤ 40) (hik : i < k) (hc : n ≤ c)
    (h1 : ∀ W, Below w.heap.size w W → Calls Tryz.prog 81 #[.slice (some ⟨b, o, none⟩) k c, .int .i64 (i : Int)] W (PathPost W d p))
    (h2 : ∀ W, Below w.heap.size w W → Calls Tryz.prog 54 #[.slice (some ⟨b, o + k * 8, none⟩) k (c - k)] W (NmPost W up)) :
    Calls Tryz.prog 81 #[.slice (some ⟨b, o, none⟩) n c, .int .i64 (i : Int)] w (PathPost w (d + 1) (p ++ [up])) := by
  have H1 := Lib.hid h1; clear h1
  have H2 := Lib.hid h2; clear h2
  have hk1 : 1 ≤ k := by rw [hk]; exact Nat.one_le_two_pow
  have hkb : k ≤ 1099511627776 := by rw [hk]; exact Nat.pow_le_pow_right (j := 40) (by omega) hd
  have h2k : n = 2 * k := by rw [hn, hk, Nat.pow_succ]; omega
  have hcall : ∀ W, Calls Tryz.prog 87 #[.int .i64 (n : Int)] W fun en w' => en = .returned (.int .i64 (k : Int)) ∧ w' = W := fun W => by
    rw [hk]; exact rsplit_pow d n W hn hd
  have HC := Lib.hid hcall; clear hcall
  have hne1 : ((n : Int) == 1) = false := by rw [beq_eq_false_iff_ne]; omega
  clear hk hn
  subst h2k
  have i1 : (0 : Int) ≤ (k : Int) := by omega
  have i2 : (k : Int) ≤ (c : Int) := by omega
  have i3 : (k : Int) ≤ ((2 * k : Nat) : Int) := by omega
  have i4 : ¬ c = k := by omega
  have i5 : 2 * k - k = k := by omega
  have i6 : ((2 * k : Nat) : Int) ≤ (c : Int) := by omega
  have i7 : decide ((i : Int) < (k : Int)) = true := by simp; omega
  have i9 : decide (((2 * k : Nat) : Int) ≤ (i : Int)) = false := by simp; omega
  obtain ⟨n, hn⟩ : ∃ n, n = 2 * k := ⟨_, rfl⟩
  rw [← hn] at hne1 HC i3 i5 i6 i9 ⊢
  clear hn
  have hb0 : Below w.heap.size w w := Below.refl _ _
  go_enter Tryz.func81, Tryz.ntmps81
  go_upto_region 8 with (first
    | (go_at_call 87; refine (HC.out _).mono ?_; rintro en w1 ⟨rfl, hw1⟩; replace hw1 := hw1.symm; subst hw1)
    | (go_at_call 81; refine (H1.out _ hb0).mono ?_; rintro en w2 ⟨A2, c2, rfl, hown2, hb2⟩))
  try go_frame
  go_wp2_with (first
    | (go_at_call 54; refine (H2.out _ hb2).mono ?_; rintro en w3 ⟨rfl, hb3⟩; have hb23 := hb2.trans (hb3.mono hb2.size); have hown3 := own_below hown2 hb3 (Nat.le_refl _))
    | (at_builtin; refine wpList_app rfl (.tmp 36) (.tmp 41) _ rfl w.heap.size 29 (Nm.val ⟨0, 0, 0, 0, 0, 0, 0, 0⟩) 8 8 Tryz.underlying22 info_name rfl (by decide) _ d (p.flatMap nmc) rfl (hown3.alloc _) (w3.heap.size + 1) _ 1 1 (nmc up) rfl rfl (by have h := Rd.of_blk (Blk.new w3 29 up.cells) 0 8; simpa using h) (fun u hu => names_one (l := [up]) (by simpa using hu)) (by omega) (by unfold maxLen; omega) (by have := hb23.size; simp; omega) ?_; intro v4 w4 hown4 hg4 hat4; have hbw4 := below_own (hb23.alloc hb23.size _) (hown3.alloc _) hg4; obtain ⟨A4, c4, hv4⟩ := own_form hown4; subst hv4))
  go_ret2
  have e5 : (p ++ [up]).flatMap nmc = p.flatMap nmc ++ nmc up := by simp
  exact ⟨A4, c4, rfl, by rw [e5]; exact hown4, hbw4⟩

set_option maxRecDepth 100000 in
set_option maxHeartbeats 4000000 in
theorem rpath_ge (d i n k c b o : Nat) (p : List Nm) (up : Nm) (w : World) (hk : k = 2 ^ d) (hn : n = 2 ^ (d + 1)) (hd : d ≤ 40) (hik : k ≤ i ∧ i < n) (hc : n ≤ c)
    (h1 : ∀ W, Below w.heap.size w W → Calls Tryz.prog 81 #[.slice (some ⟨b, o + k * 8, none⟩) k (c - k), .int .i64 ((i : Int) - (k : Int))] W (PathPost W d p))
    (h2 : ∀ W, Below w.heap.size w W → Calls Tryz.prog 54 #[.slice (some ⟨b, o, none⟩) k c] W (NmPost W up)) :
    Calls Tryz.prog 81 #[.slice (some ⟨b, o, none⟩) n c, .int .i64 (i : Int)] w (PathPost w (d + 1) (p ++ [up])) := by
  have H1 := Lib.hid h1; clear h1
  have H2 := Lib.hid h2; clear h2
  have hk1 : 1 ≤ k := by rw [hk]; exact Nat.one_le_two_pow
  have hkb : k ≤ 1099511627776 := by rw [hk]; exact Nat.pow_le_pow_right (j := 40) (by omega) hd
  have h2k : n = 2 * k := by rw [hn, hk, Nat.pow_succ]; omega
  have hcall : ∀ W, Calls Tryz.prog 87 #[.int .i64 (n : Int)] W fun en w' => en = .returned (.int .i64 (k : Int)) ∧ w' = W := fun W => by
    rw [hk]; exact rsplit_pow d n W hn hd
  have HC := Lib.hid hcall; clear hcall
  have hne1 : ((n : Int) == 1) = false := by rw [beq_eq_false_iff_ne]; omega
  clear hk hn
  subst h2k
  have i1 : (0 : Int) ≤ (k : Int) := by omega
  have i2 : (k : Int) ≤ (c : Int) := by omega
  have i3 : (k : Int) ≤ ((2 * k : Nat) : Int) := by omega
  have i4 : ¬ c = k := by omega
  have i5 : 2 * k - k = k := by omega
  have i6 : ((2 * k : Nat) : Int) ≤ (c : Int) := by omega
  have i7 : decide ((i : Int) < (k : Int)) = false := by simp; omega
  have i9 : decide (((2 * k : Nat) : Int) ≤ (i : Int)) = false := by simp; omega
  have i8 : IntKind.i64.wrap ((i : Int) - (k : Int)) = (i : Int) - (k : Int) := by rw [IntKind.wrap_i64]; omega
  obtain ⟨n, hn⟩ : ∃ n, n = 2 * k := ⟨_, rfl⟩
  rw [← hn] at hne1 HC i3 i5 i6 i9 ⊢
  clear hn
  have hb0 : Below w.heap.size w w := Below.refl _ _
  go_enter Tryz.func81, Tryz.ntmps81
  go_upto_region 10 with (first
    | (go_at_call 87; refine (HC.out _).mono ?_; rintro en w1 ⟨rfl, hw1⟩; replace hw1 := hw1.symm; subst hw1)
    | (go_at_call 81; refine (H1.out _ hb0).mono ?_; rintro en w2 ⟨A2, c2, rfl, hown2, hb2⟩))
  try go_frame
  go_wp2_with (first
    | (go_at_call 54; refine (H2.out _ hb2).mono ?_; rintro en w3 ⟨rfl, hb3⟩; have hb23 := hb2.trans (hb3.mono hb2.size); have hown3 := own_below hown2 hb3 (Nat.le_refl _))
    | (at_builtin; refine wpList_app rfl (.tmp 53) (.tmp 58) _ rfl w.heap.size 29 (Nm.val ⟨0, 0, 0, 0, 0, 0, 0, 0⟩) 8 8 Tryz.underlying22 info_name rfl (by decide) _ d (p.flatMap nmc) rfl (hown3.alloc _) (w3.heap.size + 1) _ 1 1 (nmc up) rfl rfl (by have h := Rd.of_blk (Blk.new w3 29 up.cells) 0 8; simpa using h) (fun u hu => names_one (l := [up]) (by simpa using hu)) (by omega) (by unfold maxLen; omega) (by have := hb23.size; simp; omega) ?_; intro v4 w4 hown4 hg4 hat4; have hbw4 := below_own (hb23.alloc hb23.size _) (hown3.alloc _) hg4; obtain ⟨A4, c4, hv4⟩ := own_form hown4; subst hv4))
  go_ret2
  have e5 : (p ++ [up]).flatMap nmc = p.flatMap nmc ++ nmc up := by simp
  exact ⟨A4, c4, rfl, by rw [e5]; exact hown4, hbw4⟩

theorem rpath_any : ∀ (d i : Nat) (l : List Nm) (b o n c : Nat) (w : World), l.length = n → n = 2 ^ d → d ≤ 40 → n ≤ c → c ≤ maxLen → i < n → Rd w w.heap.size (some ⟨b, o, none⟩) (l.flatMap nmc) →
    Calls Tryz.prog 81 #[.slice (some ⟨b, o, none⟩) n c, .int .i64 (i : Int)] w (PathPost w d (pathF d i l))
  | 0, i, l, b, o, n, c, w, hl, hn, _, _, _, hi, _ => by
    obtain rfl : n = 1 := hn
    obtain rfl : i = 0 := by omega
    refine (rpath_zero _ c w).mono ?_
    rintro e w' ⟨rfl, rfl⟩
    exact ⟨none, 0, rfl, ⟨rfl, .inl ⟨rfl, rfl⟩⟩, Below.refl _ _⟩
  | d + 1, i, l, b, o, n, c, w, hl, hn, hd, hc, hm, hi, hr => by
    have h2 : n = 2 * 2 ^ d := by rw [hn, Nat.pow_succ]; omega
    have hp : 1 ≤ 2 ^ d := Nat.one_le_two_pow
    have hrt : ∀ W, Below w.heap.size w W → Rd W W.heap.size (some ⟨b, o, none⟩) ((l.take (2 ^ d)).flatMap nmc) := fun W hW => nmTake ((hr.below hW).more hW.size) _
    have hrd : ∀ W, Below w.heap.size w W → Rd W W.heap.size (some ⟨b, o + 2 ^ d * 8, none⟩) ((l.drop (2 ^ d)).flatMap nmc) := fun W hW => nmDrop ((hr.below hW).more hW.size) _
    have ht : (l.take (2 ^ d)).length = 2 ^ d := by rw [List.length_take]; omega
    have hdl : (l.drop (2 ^ d)).length = 2 ^ d := by rw [List.length_drop]; omega
    have R1 : ∀ W, Below w.heap.size w W → Calls Tryz.prog 54 #[.slice (some ⟨b, o + 2 ^ d * 8, none⟩) (2 ^ d) (c - 2 ^ d)] W (NmPost W (rootF d (l.drop (2 ^ d)))) := fun W hW => rroot_any d _ _ _ _ W hdl rfl (by omega) (by omega) (by omega) (hrd W hW)
    have R2 : ∀ W, Below w.heap.size w W → Calls Tryz.prog 54 #[.slice (some ⟨b, o, none⟩) (2 ^ d) c] W (NmPost W (rootF d (l.take (2 ^ d)))) := fun W hW => rroot_any d _ _ _ _ W ht rfl (by omega) (by omega) (by omega) (hrt W hW)
    rw [pathF]
    split
    · rename_i h
      exact rpath_lt d i n (2 ^ d) c b o _ _ w rfl hn (by omega) (by omega) hc (fun W hW => rpath_any d i _ b o _ _ W ht rfl (by omega) (by omega) (by omega) (by omega) (hrt W hW)) R1
    · rename_i h
      have hs : ((i - 2 ^ d : Nat) : Int) = (i : Int) - ((2 ^ d : Nat) : Int) := by omega
      refine rpath_ge d i n (2 ^ d) c b o _ _ w rfl hn (by omega) (by omega) hc (fun W hW => ?_) R2
      have h1 := rpath_any d (i - 2 ^ d) _ b (o + 2 ^ d * 8) _ (c - 2 ^ d) W hdl rfl (by omega) (by omega) (by omega) (by omega) (hrd W hW)
      rw [hs] at h1
      exact h1
end Go.Proofs.YthmecidpjlaonaaGreat
