/-
  signed.Decode and the reference's DecodeSigned return the signed vote that 393 bytes spell, or an error, and change nothing that was there. Condition: the bytes lie in memory below the call.
  evidence.Decode and the reference's DecodeEvidence return the pair that 786 bytes spell, or an error, and change nothing that was there. Condition: the bytes lie in memory below the call.
-/
import Derived.Test.YthmecidpjlaonaaGVDec
import Derived.Test.YthmecidpjlaonaaBuild
namespace Go.Proofs.Ythmecidpjlaonaa
open Go.RowKit
attribute [local go_sem ↓] Go.wp_at_zero Go.wp_at_succ loadNm loadVt loadSg loadEv
attribute [local go_sem] runNm runVt runSg runEv pickRow_some rowAt_drew rowAt_drewN

theorem wp_appD {P : Program} {w : World} {o : Oper} {a : Act} {K : Act → World → Prop} {Q : Exit → Act → World → Prop} (d : Option Tmp) (hd : o.dst = d) (s x : Operand) (t : TypeId)
    (ho : o.op = .call { callee := .builtin .append, args := #[s, x], argTypes := #[t, t] })
    (base : Nat) (e : TypeId) (z : Value) (size bytes : Nat) (ht : P.underlying t = some (.slice e)) (hi : (P.info? e).map (fun i => (i.zero, i.size, i.bytes)) = some (some z, size, bytes)) (hzs : z.cells.size = size) (hsz : 0 < size)
    (v : Value) (n : Nat) (xs : List Value) (hs : a.eval s = v) (hown : w.ownsRow base e size v n xs)
    (B : Nat) (A : Option Addr) (m c : Nat) (news : List Value) (hx : a.eval x = .slice A m c) (hl : news.length = m * size) (hr : Rd w B A news) (h1 : ∀ u ∈ news, u.oneCell' = true)
    (hbytes : (n + m) * bytes ≤ 140737488355328) (h63 : n + m ≤ maxLen) (hbase : base ≤ w.heap.size)
    (h : ∀ v' w', w'.ownsRow base e size v' (n + m) (xs ++ news) → w.grownBy w' v.ownBlock → (v'.ownBlock = v.ownBlock ∨ v'.ownBlock = some w.heap.size) → K (a.put d v') w') :
    o.wp P a w K Q := by
  subst hd
  exact wp_app s x t ho base e z size bytes ht hi hzs hsz v n xs hs hown B A m c news hx hl hr h1 hbytes h63 hbase h
theorem own_addr {w : World} {base e size n c : Nat} {A : Option Addr} {xs : List Value} (h : w.ownsRow base e size (.slice A n c) n xs) (p : Addr) (hp : A = some p) : base ≤ p.block := by
  rcases h.2 with ⟨hv, _⟩ | ⟨g, cap, cur, hv, hb, _⟩
  · injection hv with hA; rw [hp] at hA; cases hA
  · injection hv with hA; rw [hp] at hA; injection hA with hA; subst hA; exact hb
theorem Rd.kept {w w' : World} {B' : Nat} {A : Option Addr} {xs : List Value} {row : Option Nat} (h : Rd w B' A xs) (hg : w.grownBy w' row) (hB : B' ≤ w.heap.size) (hne : ∀ p, A = some p → some p.block ≠ row) : Rd w' B' A xs := by
  rcases h with h | ⟨b, o, rfl, hb, hc⟩
  · exact .inl h
  · exact .inr ⟨b, o, rfl, hb, fun j u hu => (World.cell?_of_block (a := ⟨b, o + j, none⟩) (hg.block b (by omega) (hne _ rfl))).trans (hc j u hu)⟩
abbrev zeroSc : Array Value := #[.int .i64 0, .int .i64 0, .int .i64 0, .int .i64 0, .int .i64 0, .int .i64 0, .int .u8 0, .int .u8 0, .int .u8 0, .int .u8 0, .int .u8 0, .int .u8 0, .int .u8 0, .int .u8 0, .int .u8 0, .int .u8 0, .int .u8 0, .int .u8 0, .int .u8 0, .int .u8 0, .int .u8 0, .int .u8 0, .slice none 0 0]
theorem one_zs {u : Value} (h : u ∈ zeroSc.toList) : u.oneCell' = true := by
  simp at h
  rcases h with rfl | rfl | rfl <;> rfl
theorem one_zv {u : Value} (h : u ∈ zeroVc.toList) : u.oneCell' = true := by
  simp at h
  rcases h with rfl | rfl <;> rfl
theorem one_sg {u : Value} (s : Sg) (h : u ∈ s.cells.toList) : u.oneCell' = true := by
  unfold Sg.cells at h
  rw [Array.toList_push, List.mem_append] at h
  rcases h with h | h
  · exact one_vt _ h
  · simp at h; subst h; rfl
theorem size_sg : (Try.prog.info? 43).map (·.size) = some 23 := by kernel_rfl
/-- The call returns a signed vote whose signature lies in new memory. -/
def SDecOk (w : World) (v : Vt) (sig : List UInt8) (e : Ending) (w' : World) : Prop :=
  ∃ A c, e = .returned (.tuple #[(Sg.mk v sig A c).val, .int .i64 0]) ∧ (∀ p, A = some p → w.heap.size ≤ p.block) ∧ Rd w' w'.heap.size A (sig.map B) ∧ sig.length ≤ c ∧ c ≤ maxLen ∧ Below w.heap.size w w'
/-- The call returns an error number, and no signed vote. -/
def SDecErr (w : World) (n : Int) (e : Ending) (w' : World) : Prop := e = .returned (.tuple #[.agg zeroSc, .int .i64 n]) ∧ Below w.heap.size w w'

set_option maxRecDepth 100000 in
set_option maxHeartbeats 2000000 in
theorem sdec_short (A : Option Addr) (n c : Nat) (w : World) (h : n < 393) : Calls Try.prog 47 #[.slice A n c] w (SDecErr w 2) := by
  have hR : Blk (w.alloc (Obj.cells zeroSc 43)) w.heap.size 43 zeroSc := Blk.new w _ _
  go_enter Try.func47, Try.ntmps47
  go_wp2_with (refine wpList_store_blk rfl 43 (.tmp 2) (.tmp 10) rfl w.heap.size zeroSc rfl rfl 43 _ hR rfl size_sg (fun u hu => one_zs hu) ?_)
  intro w1 hR1 hg1 hs1
  go_wp2
  exact bodyPost_ret (results_row_tmp (g := w.heap.size) (cs := zeroSc) rfl _ _ _ _ _ rfl hR1 Try.underlying43 rfl size_sg) rfl ⟨rfl, ((Below.refl _ _).alloc (Nat.le_refl _) _).grown hg1 (by simp) (by rintro j ⟨⟩; omega)⟩

set_option maxRecDepth 100000 in
set_option maxHeartbeats 2000000 in
theorem sdec_long (A : Option Addr) (n c : Nat) (w : World) (h : 393 < n) : Calls Try.prog 47 #[.slice A n c] w (SDecErr w 3) := by
  have hR : Blk (w.alloc (Obj.cells zeroSc 43)) w.heap.size 43 zeroSc := Blk.new w _ _
  go_enter Try.func47, Try.ntmps47
  go_wp2_with (refine wpList_store_blk rfl 43 (.tmp 2) (.tmp 15) rfl w.heap.size zeroSc rfl rfl 43 _ hR rfl size_sg (fun u hu => one_zs hu) ?_)
  intro w1 hR1 hg1 hs1
  go_wp2
  exact bodyPost_ret (results_row_tmp (g := w.heap.size) (cs := zeroSc) rfl _ _ _ _ _ rfl hR1 Try.underlying43 rfl size_sg) rfl ⟨rfl, ((Below.refl _ _).alloc (Nat.le_refl _) _).grown hg1 (by simp) (by rintro j ⟨⟩; omega)⟩

set_option maxRecDepth 100000 in
set_option maxHeartbeats 4000000 in
theorem sdec_yes (b o c : Nat) (v : Vt) (sig : List UInt8) (hsl : sig.length = 370) (w : World) (hc : 393 ≤ c) (hm : c ≤ maxLen)
    (hd : ∀ W, Below w.heap.size w W → Calls Try.prog 84 #[.slice (some ⟨b, o, none⟩) 23 c] W (VDecPost W v 0))
    (ha : ∀ W, Below w.heap.size w W → Calls Try.prog 72 #[.slice (some ⟨b, o + 23, none⟩) 370 (c - 23), .int .u64 0, .int .i64 0] W (RowPost W 5 1 370 (sig.map B))) :
    Calls Try.prog 47 #[.slice (some ⟨b, o, none⟩) 393 c] w (SDecOk w v sig) := by
  have HD := Lib.hid hd; clear hd
  have HSL := Lib.hid hsl; clear hsl
  have HA := Lib.hid ha; clear ha
  unfold maxLen at hm
  have i1 : (23 : Int) ≤ (c : Int) := by omega
  have i2 : ¬ c = 23 := by omega
  have i3 : (393 : Int) ≤ (c : Int) := by omega
  go_enter Try.func47, Try.ntmps47
  go_wp2_with fail
  have hR : Blk (w.alloc (Obj.cells zeroSc 43)) w.heap.size 43 zeroSc := Blk.new w _ _
  have hbW : Below w.heap.size w (w.alloc (Obj.cells zeroSc 43)) := (Below.refl _ _).alloc (Nat.le_refl _) _
  generalize (w.alloc (Obj.cells zeroSc 43)) = W at *
  refine (HD.out _ hbW).mono ?_
  rintro en w1 ⟨rfl, hb1⟩
  have hR1 := hR.below hb1 hR.lt
  have hbw1 := hbW.trans (hb1.mono hbW.size)
  have hl1 := hR1.lt
  clear hR hbW hb1
  go_wp2_with (refine wpList_store_blk rfl 41 (.tmp 4) (.tmp 20) rfl w1.heap.size v.cells rfl rfl 41 zeroVc (Blk.new w1 _ _) rfl size_vote (fun u hu => one_vt v hu) ?_)
  intro w2 hV2 hg2 hs2
  have hR2 := (hR1.alloc (Obj.cells zeroVc 41)).kept hg2 (by simp; omega)
  have hbw2 : Below w.heap.size w w2 := (hbw1.alloc hbw1.size _).grown hg2 (by have := hbw1.size; simp; omega) (by rintro j ⟨⟩; exact hbw1.size)
  have hne : w.heap.size ≠ w1.heap.size := by omega
  clear hR1 hbw1 hg2 hs2 hl1
  have x2 := hV2.row 22 rfl
  go_wp2
  have hl2 := hV2.lt
  refine wp_region_noPanic ?_
  refine wp_region_held_drew (S := fun w' => rowAt w' w1.heap.size 0 22 = some v.cells) (by kernel_rfl) (hV2.row 22 rfl) (fun hHeld => ?_)
  refine wpAnyH_takeD (some 26) (i := 0) (v := ?vh0) rfl rfl (by kernel_rfl) (by kernel_rfl) (by kernel_rfl) (fun _ _ _ h => h) (by rfl) ?hh0 (by assumption) ?_
  case hh0 => (intro wq hSw; (try dsimp only at hSw); go_simp; (try (with_reducible rfl)))
  go_frame
  refine wpAnyH_takeD (some 27) (i := 1) (v := ?vh1) rfl rfl (by kernel_rfl) (by kernel_rfl) (by kernel_rfl) (fun _ _ _ h => h) (by rfl) ?hh1 (by assumption) ?_
  case hh1 => (intro wq hSw; (try dsimp only at hSw); go_simp; (try (with_reducible rfl)))
  go_frame
  refine wpAnyH_takeD (some 28) (i := 2) (v := ?vh2) rfl rfl (by kernel_rfl) (by kernel_rfl) (by kernel_rfl) (fun _ _ _ h => h) (by rfl) ?hh2 (by assumption) ?_
  case hh2 => (intro wq hSw; (try dsimp only at hSw); go_simp; (try (with_reducible rfl)))
  go_frame
  refine wpAnyH_ready (rs := [3]) (by kernel_rfl) (by simp) ?_
  refine AllReadyH.cons rfl (fun K hK => ?_) AllReadyH.nil
  go_simp
  refine (HA.out _ hbw2.drew).mono ?_; rintro en w3 ⟨A3, c3, rfl, hown3, hb3⟩; have hV3 := hV2.drew.below hb3 hV2.lt; have hR3 := hR2.drew.below hb3 hR2.lt; have hbw3 := hbw2.trans (((Below.refl _ _).drew.trans hb3).mono hbw2.size)
  go_wp2_with fail
  refine hK.out _ _ (hV3.row 22 rfl) (fun hHeld => ?_)
  clear hK K
  try go_frame
  refine wpAnyH_takeD (some 30) (i := 4) (v := ?vh4) rfl rfl (by kernel_rfl) (by kernel_rfl) (by kernel_rfl) (fun _ _ _ h => h) (by rfl) ?hh4 (by assumption) ?_
  case hh4 => (intro wq hSw; (try dsimp only at hSw); go_simp; (try (with_reducible rfl)))
  go_frame
  refine wpAnyH_ready (rs := [5]) (by kernel_rfl) (by simp) ?_
  refine AllReadyH.cons rfl (fun K hK => ?_) AllReadyH.nil
  rw [if_pos (by rfl)]
  refine wp_store_blk 43 (.tmp 2) (.tmp 30) (by rfl) w.heap.size (Sg.mk v sig A3 c3).cells (by rfl) (by simp only [Sg.cells, HSL.out]; rfl) 43 zeroSc hR3 rfl size_sg (fun u hu => one_sg _ hu) rfl ?_; intro w4 hR4 hg4 hs4; have hV4 := hV3.kept hg4 (by simpa using hne.symm)
  refine hK.out _ _ (hV4.row 22 rfl) (fun hHeld => ?_)
  clear hK K
  try go_frame
  refine wpAnyH_takeD (some 3) (i := 6) (v := ?vh6) rfl rfl (by kernel_rfl) (by kernel_rfl) (by kernel_rfl) (fun _ _ _ h => h) (by rfl) ?hh6 (by assumption) ?_
  case hh6 => (intro wq hSw; (try dsimp only at hSw); go_simp; (try (with_reducible rfl)))
  go_frame
  refine wpAnyH_done (by kernel_rfl) ?_ _
  refine NoPanic.normal ?_
  go_wp2
  refine bodyPost_ret (results_row_tmp (g := w.heap.size) (cs := (Sg.mk v sig A3 c3).cells) rfl _ _ _ _ _ rfl hR4 Try.underlying43 rfl size_sg) rfl ?_
  obtain ⟨A3', c3', hv3, hc3, hm3⟩ := own_cap hown3 (by omega)
  injection hv3 with hA3 hn3 hcc3
  subst hcc3
  have hown4 := hown3.kept hg4 (.inr fun e => own_lo hown3 (show w.heap.size < w2.heap.size from hR2.lt) e.symm)
  exact ⟨A3, c3, rfl, fun p hp => Nat.le_trans (Nat.le_of_lt (show w.heap.size < w2.heap.size from hR2.lt)) (own_addr hown3 p hp), Rd.of_own hown4, by rw [HSL.out]; exact hc3, hm3, hbw3.grown hg4 hbw3.size (by rintro j ⟨⟩; omega)⟩

set_option maxRecDepth 100000 in
set_option maxHeartbeats 4000000 in
theorem sdec_bad (b o c : Nat) (v : Vt) (n : Int) (hn : (n != 0) = true) (w : World) (hc : 393 ≤ c) (hm : c ≤ maxLen)
    (hd : ∀ W, Below w.heap.size w W → Calls Try.prog 84 #[.slice (some ⟨b, o, none⟩) 23 c] W (VDecPost W v n)) :
    Calls Try.prog 47 #[.slice (some ⟨b, o, none⟩) 393 c] w (SDecErr w n) := by
  have HD := Lib.hid hd; clear hd
  unfold maxLen at hm
  have i1 : (23 : Int) ≤ (c : Int) := by omega
  have i2 : ¬ c = 23 := by omega
  have i3 : (393 : Int) ≤ (c : Int) := by omega
  go_enter Try.func47, Try.ntmps47
  go_wp2_with fail
  have hR : Blk (w.alloc (Obj.cells zeroSc 43)) w.heap.size 43 zeroSc := Blk.new w _ _
  have hbW : Below w.heap.size w (w.alloc (Obj.cells zeroSc 43)) := (Below.refl _ _).alloc (Nat.le_refl _) _
  generalize (w.alloc (Obj.cells zeroSc 43)) = W at *
  refine (HD.out _ hbW).mono ?_
  rintro en w1 ⟨rfl, hb1⟩
  have hR1 := hR.below hb1 hR.lt
  have hbw1 := hbW.trans (hb1.mono hbW.size)
  have hl1 := hR1.lt
  clear hR hbW hb1
  go_wp2_with (refine wpList_store_blk rfl 41 (.tmp 4) (.tmp 20) rfl w1.heap.size v.cells rfl rfl 41 zeroVc (Blk.new w1 _ _) rfl size_vote (fun u hu => one_vt v hu) ?_)
  intro w2 hV2 hg2 hs2
  have hR2 := (hR1.alloc (Obj.cells zeroVc 41)).kept hg2 (by simp; omega)
  have hbw2 : Below w.heap.size w w2 := (hbw1.alloc hbw1.size _).grown hg2 (by have := hbw1.size; simp; omega) (by rintro j ⟨⟩; exact hbw1.size)
  have hne : w.heap.size ≠ w1.heap.size := by omega
  clear hR1 hbw1 hg2 hs2 hl1
  have hl2 := hV2.lt
  go_wp2_with (refine wpList_store_blk rfl 43 (.tmp 2) (.tmp 24) rfl w.heap.size zeroSc rfl rfl 43 _ hR2 rfl size_sg (fun u hu => one_zs hu) ?_)
  intro w5 hR5 hg5 hs5
  go_wp2
  exact bodyPost_ret (results_row_tmp (g := w.heap.size) (cs := zeroSc) rfl _ _ _ _ _ rfl hR5 Try.underlying43 rfl size_sg) rfl ⟨rfl, hbw2.grown hg5 hbw2.size (by rintro j ⟨⟩; omega)⟩

set_option maxRecDepth 100000 in
set_option maxHeartbeats 2000000 in
theorem rsdec_short (A : Option Addr) (n c : Nat) (w : World) (h : n < 393) : Calls Try.prog 48 #[.slice A n c] w (SDecErr w 2) := by
  have hR : Blk (w.alloc (Obj.cells zeroSc 43)) w.heap.size 43 zeroSc := Blk.new w _ _
  go_enter Try.func48, Try.ntmps48
  go_wp2_with (refine wpList_store_blk rfl 43 (.tmp 2) (.tmp 9) rfl w.heap.size zeroSc rfl rfl 43 _ hR rfl size_sg (fun u hu => one_zs hu) ?_)
  intro w1 hR1 hg1 hs1
  go_wp2
  exact bodyPost_ret (results_row_tmp (g := w.heap.size) (cs := zeroSc) rfl _ _ _ _ _ rfl hR1 Try.underlying43 rfl size_sg) rfl ⟨rfl, ((Below.refl _ _).alloc (Nat.le_refl _) _).grown hg1 (by simp) (by rintro j ⟨⟩; omega)⟩

set_option maxRecDepth 100000 in
set_option maxHeartbeats 2000000 in
theorem rsdec_long (A : Option Addr) (n c : Nat) (w : World) (h : 393 < n) : Calls Try.prog 48 #[.slice A n c] w (SDecErr w 3) := by
  have hR : Blk (w.alloc (Obj.cells zeroSc 43)) w.heap.size 43 zeroSc := Blk.new w _ _
  go_enter Try.func48, Try.ntmps48
  go_wp2_with (refine wpList_store_blk rfl 43 (.tmp 2) (.tmp 13) rfl w.heap.size zeroSc rfl rfl 43 _ hR rfl size_sg (fun u hu => one_zs hu) ?_)
  intro w1 hR1 hg1 hs1
  go_wp2
  exact bodyPost_ret (results_row_tmp (g := w.heap.size) (cs := zeroSc) rfl _ _ _ _ _ rfl hR1 Try.underlying43 rfl size_sg) rfl ⟨rfl, ((Below.refl _ _).alloc (Nat.le_refl _) _).grown hg1 (by simp) (by rintro j ⟨⟩; omega)⟩

set_option maxRecDepth 100000 in
set_option maxHeartbeats 4000000 in
theorem rsdec_yes (b o c : Nat) (v : Vt) (sig : List UInt8) (hsl : sig.length = 370) (w : World) (hc : 393 ≤ c) (hm : c ≤ maxLen)
    (hd : ∀ W, Below w.heap.size w W → Calls Try.prog 85 #[.slice (some ⟨b, o, none⟩) 23 c] W (VDecPost W v 0)) (hs : Rd w w.heap.size (some ⟨b, o + 23, none⟩) (sig.map B)) :
    Calls Try.prog 48 #[.slice (some ⟨b, o, none⟩) 393 c] w (SDecOk w v sig) := by
  have HD := Lib.hid hd; clear hd
  have HSL := Lib.hid hsl; clear hsl
  have HS := Lib.hid hs; clear hs
  unfold maxLen at hm
  have i1 : (23 : Int) ≤ (c : Int) := by omega
  have i2 : ¬ c = 23 := by omega
  have i3 : (393 : Int) ≤ (c : Int) := by omega
  go_enter Try.func48, Try.ntmps48
  go_wp2_with fail
  have hR : Blk (w.alloc (Obj.cells zeroSc 43)) w.heap.size 43 zeroSc := Blk.new w _ _
  have hbW : Below w.heap.size w (w.alloc (Obj.cells zeroSc 43)) := (Below.refl _ _).alloc (Nat.le_refl _) _
  generalize (w.alloc (Obj.cells zeroSc 43)) = W at *
  refine (HD.out _ hbW).mono ?_
  rintro en w1 ⟨rfl, hb1⟩
  have hR1 := hR.below hb1 hR.lt
  have hbw1 := hbW.trans (hb1.mono hbW.size)
  have hl1 := hR1.lt
  clear hR hbW hb1
  go_wp2_with (refine wpList_store_blk rfl 41 (.tmp 4) (.tmp 18) rfl w1.heap.size v.cells rfl rfl 41 zeroVc (Blk.new w1 _ _) rfl size_vote (fun u hu => one_vt v hu) ?_)
  intro w2 hV2 hg2 hs2
  have hR2 := (hR1.alloc (Obj.cells zeroVc 41)).kept hg2 (by simp; omega)
  have hbw2 : Below w.heap.size w w2 := (hbw1.alloc hbw1.size _).grown hg2 (by have := hbw1.size; simp; omega) (by rintro j ⟨⟩; exact hbw1.size)
  have hne : w.heap.size ≠ w1.heap.size := by omega
  clear hR1 hbw1 hg2 hs2 hl1
  have x2 := hV2.row 22 rfl
  go_wp2
  have hl2 := hV2.lt
  refine wp_region_noPanic ?_
  refine wp_region_held_drew (S := fun w' => rowAt w' w1.heap.size 0 22 = some v.cells) (by kernel_rfl) (hV2.row 22 rfl) (fun hHeld => ?_)
  refine wpAnyH_takeD (some 24) (i := 0) (v := ?vh0) rfl rfl (by kernel_rfl) (by kernel_rfl) (by kernel_rfl) (fun _ _ _ h => h) (by rfl) ?hh0 (by assumption) ?_
  case hh0 => (intro wq hSw; (try dsimp only at hSw); go_simp; (try (with_reducible rfl)))
  go_frame
  refine wpAnyH_takeD (some 25) (i := 1) (v := ?vh1) rfl rfl (by kernel_rfl) (by kernel_rfl) (by kernel_rfl) (fun _ _ _ h => h) (by rfl) ?hh1 (by assumption) ?_
  case hh1 => (intro wq hSw; (try dsimp only at hSw); go_simp; (try (with_reducible rfl)))
  go_frame
  refine wpAnyH_takeD (some 26) (i := 2) (v := ?vh2) rfl rfl (by kernel_rfl) (by kernel_rfl) (by kernel_rfl) (fun _ _ _ h => h) (by rfl) ?hh2 (by assumption) ?_
  case hh2 => (intro wq hSw; (try dsimp only at hSw); go_simp; (try (with_reducible rfl)))
  go_frame
  refine wpAnyH_ready (rs := [3]) (by kernel_rfl) (by simp) ?_
  refine AllReadyH.cons rfl (fun K hK => ?_) AllReadyH.nil
  rw [if_pos (by rfl)]
  refine wp_appD (some 27) (by rfl) (.const (.slice none 0 0)) (.tmp 26) _ (by rfl) w2.heap.size 5 (.int .u8 0) 1 1 Try.underlying23 info_byte rfl (by decide) (.slice none 0 0) 0 [] (by rfl) ⟨rfl, .inl ⟨rfl, rfl⟩⟩ w.heap.size (some ⟨b, o + 23, none⟩) 370 (c - 23) (sig.map B) (by rfl) (by simpa using HSL.out) (HS.out.below hbw2.drew) (fun u hu => bytes_one hu) (by omega) (by unfold maxLen; omega) (Nat.le_refl _) ?_; intro v3 w3 hown3 hg3 hat3; have hV3 := hV2.drew.kept hg3 (by simp [Value.ownBlock]); have hR3 := hR2.drew.kept hg3 (by simp [Value.ownBlock]); have hbw3 : Below w.heap.size w w3 := hbw2.drew.grown hg3 hbw2.size (by rintro k hk; simp [Value.ownBlock] at hk); rw [List.nil_append, Nat.zero_add] at hown3; obtain ⟨A3, c3, hv3, hc3, hm3⟩ := own_cap hown3 (by omega); subst hv3
  refine hK.out _ _ (hV3.row 22 rfl) (fun hHeld => ?_)
  clear hK K
  try go_frame
  refine wpAnyH_takeD (some 28) (i := 4) (v := ?vh4) rfl rfl (by kernel_rfl) (by kernel_rfl) (by kernel_rfl) (fun _ _ _ h => h) (by rfl) ?hh4 (by assumption) ?_
  case hh4 => (intro wq hSw; (try dsimp only at hSw); go_simp; (try (with_reducible rfl)))
  go_frame
  refine wpAnyH_ready (rs := [5]) (by kernel_rfl) (by simp) ?_
  refine AllReadyH.cons rfl (fun K hK => ?_) AllReadyH.nil
  rw [if_pos (by rfl)]
  refine wp_store_blk 43 (.tmp 2) (.tmp 28) (by rfl) w.heap.size (Sg.mk v sig A3 c3).cells (by rfl) (by simp only [Sg.cells, HSL.out]; rfl) 43 zeroSc hR3 rfl size_sg (fun u hu => one_sg _ hu) rfl ?_; intro w4 hR4 hg4 hs4; have hV4 := hV3.kept hg4 (by simpa using hne.symm)
  refine hK.out _ _ (hV4.row 22 rfl) (fun hHeld => ?_)
  clear hK K
  try go_frame
  refine wpAnyH_takeD (some 3) (i := 6) (v := ?vh6) rfl rfl (by kernel_rfl) (by kernel_rfl) (by kernel_rfl) (fun _ _ _ h => h) (by rfl) ?hh6 (by assumption) ?_
  case hh6 => (intro wq hSw; (try dsimp only at hSw); go_simp; (try (with_reducible rfl)))
  go_frame
  refine wpAnyH_done (by kernel_rfl) ?_ _
  refine NoPanic.normal ?_
  go_wp2
  refine bodyPost_ret (results_row_tmp (g := w.heap.size) (cs := (Sg.mk v sig A3 c3).cells) rfl _ _ _ _ _ rfl hR4 Try.underlying43 rfl size_sg) rfl ?_
  have hown4 := hown3.kept hg4 (.inr fun e => own_lo hown3 (show w.heap.size < w2.heap.size from hR2.lt) e.symm)
  exact ⟨A3, c3, rfl, fun p hp => Nat.le_trans (Nat.le_of_lt (show w.heap.size < w2.heap.size from hR2.lt)) (own_addr hown3 p hp), Rd.of_own hown4, by rw [HSL.out]; exact hc3, hm3, hbw3.grown hg4 hbw3.size (by rintro j ⟨⟩; omega)⟩

set_option maxRecDepth 100000 in
set_option maxHeartbeats 4000000 in
theorem rsdec_bad (b o c : Nat) (v : Vt) (n : Int) (hn : (n != 0) = true) (w : World) (hc : 393 ≤ c) (hm : c ≤ maxLen)
    (hd : ∀ W, Below w.heap.size w W → Calls Try.prog 85 #[.slice (some ⟨b, o, none⟩) 23 c] W (VDecPost W v n)) :
    Calls Try.prog 48 #[.slice (some ⟨b, o, none⟩) 393 c] w (SDecErr w n) := by
  have HD := Lib.hid hd; clear hd
  unfold maxLen at hm
  have i1 : (23 : Int) ≤ (c : Int) := by omega
  have i2 : ¬ c = 23 := by omega
  have i3 : (393 : Int) ≤ (c : Int) := by omega
  go_enter Try.func48, Try.ntmps48
  go_wp2_with fail
  have hR : Blk (w.alloc (Obj.cells zeroSc 43)) w.heap.size 43 zeroSc := Blk.new w _ _
  have hbW : Below w.heap.size w (w.alloc (Obj.cells zeroSc 43)) := (Below.refl _ _).alloc (Nat.le_refl _) _
  generalize (w.alloc (Obj.cells zeroSc 43)) = W at *
  refine (HD.out _ hbW).mono ?_
  rintro en w1 ⟨rfl, hb1⟩
  have hR1 := hR.below hb1 hR.lt
  have hbw1 := hbW.trans (hb1.mono hbW.size)
  have hl1 := hR1.lt
  clear hR hbW hb1
  go_wp2_with (refine wpList_store_blk rfl 41 (.tmp 4) (.tmp 18) rfl w1.heap.size v.cells rfl rfl 41 zeroVc (Blk.new w1 _ _) rfl size_vote (fun u hu => one_vt v hu) ?_)
  intro w2 hV2 hg2 hs2
  have hR2 := (hR1.alloc (Obj.cells zeroVc 41)).kept hg2 (by simp; omega)
  have hbw2 : Below w.heap.size w w2 := (hbw1.alloc hbw1.size _).grown hg2 (by have := hbw1.size; simp; omega) (by rintro j ⟨⟩; exact hbw1.size)
  have hne : w.heap.size ≠ w1.heap.size := by omega
  clear hR1 hbw1 hg2 hs2 hl1
  have hl2 := hV2.lt
  go_wp2_with (refine wpList_store_blk rfl 43 (.tmp 2) (.tmp 22) rfl w.heap.size zeroSc rfl rfl 43 _ hR2 rfl size_sg (fun u hu => one_zs hu) ?_)
  intro w5 hR5 hg5 hs5
  go_wp2
  exact bodyPost_ret (results_row_tmp (g := w.heap.size) (cs := zeroSc) rfl _ _ _ _ _ rfl hR5 Try.underlying43 rfl size_sg) rfl ⟨rfl, hbw2.grown hg5 hbw2.size (by rintro j ⟨⟩; omega)⟩

theorem sdec_ok (A : Option Addr) (c : Nat) (l : List UInt8) (w : World) (hr : Rd w w.heap.size A (l.map B)) (hl : l.length = 393) (hc : 393 ≤ c) (hm : c ≤ maxLen) (h0 : (decVote (l.take 23)).2 = 0) :
    Calls Try.prog 47 #[.slice A 393 c] w (SDecOk w (decVote (l.take 23)).1 (l.drop 23)) := by
  obtain ⟨b, o, rfl, hb, hcell⟩ := hr.cells (by intro e; rw [List.map_eq_nil_iff] at e; subst e; simp at hl)
  have hs : Rd w w.heap.size (some ⟨b, o + 23, none⟩) ((l.drop 23).map B) := Rd.mk hb fun j u hu => by
    rw [Nat.add_assoc]
    exact hcell _ u (by rw [List.map_drop, List.getElem?_drop] at hu; exact hu)
  refine sdec_yes b o c (decVote (l.take 23)).1 (l.drop 23) (by simp; omega) w hc hm (fun W hW => ?_) (fun W hW => ?_)
  · have h := vdec_any (some ⟨b, o, none⟩) c (l.take 23) W (by rw [List.map_take]; exact ((hr.below hW).more hW.size).take 23) (by simp; omega) hm
    rw [h0, List.length_take, show min 23 l.length = 23 from by omega] at h
    exact h
  · have h := app0_any (some ⟨b, o + 23, none⟩) (l.drop 23).length (c - 23) 0 ((l.drop 23).map B) W (by simp) ((hs.below hW).more hW.size) (fun u hu => bytes_one hu) (by simp; omega)
    rw [show (l.drop 23).length = 370 from by simp; omega] at h
    exact h
theorem sdec_err (A : Option Addr) (c : Nat) (l : List UInt8) (w : World) (hr : Rd w w.heap.size A (l.map B)) (hl : l.length = 393) (hc : 393 ≤ c) (hm : c ≤ maxLen) (h0 : ¬ (decVote (l.take 23)).2 = 0) :
    Calls Try.prog 47 #[.slice A 393 c] w (SDecErr w (decVote (l.take 23)).2) := by
  obtain ⟨b, o, rfl, hb, hcell⟩ := hr.cells (by intro e; rw [List.map_eq_nil_iff] at e; subst e; simp at hl)
  refine sdec_bad b o c (decVote (l.take 23)).1 _ (by simpa using h0) w hc hm (fun W hW => ?_)
  have h := vdec_any (some ⟨b, o, none⟩) c (l.take 23) W (by rw [List.map_take]; exact ((hr.below hW).more hW.size).take 23) (by simp; omega) hm
  rw [List.length_take, show min 23 l.length = 23 from by omega] at h
  exact h

theorem rsdec_ok (A : Option Addr) (c : Nat) (l : List UInt8) (w : World) (hr : Rd w w.heap.size A (l.map B)) (hl : l.length = 393) (hc : 393 ≤ c) (hm : c ≤ maxLen) (h0 : (decVote (l.take 23)).2 = 0) :
    Calls Try.prog 48 #[.slice A 393 c] w (SDecOk w (decVote (l.take 23)).1 (l.drop 23)) := by
  obtain ⟨b, o, rfl, hb, hcell⟩ := hr.cells (by intro e; rw [List.map_eq_nil_iff] at e; subst e; simp at hl)
  have hs : Rd w w.heap.size (some ⟨b, o + 23, none⟩) ((l.drop 23).map B) := Rd.mk hb fun j u hu => by
    rw [Nat.add_assoc]
    exact hcell _ u (by rw [List.map_drop, List.getElem?_drop] at hu; exact hu)
  refine rsdec_yes b o c (decVote (l.take 23)).1 (l.drop 23) (by simp; omega) w hc hm (fun W hW => ?_) hs
  · have h := rvdec_any (some ⟨b, o, none⟩) c (l.take 23) W (by rw [List.map_take]; exact ((hr.below hW).more hW.size).take 23) (by simp; omega) hm
    rw [h0, List.length_take, show min 23 l.length = 23 from by omega] at h
    exact h
theorem rsdec_err (A : Option Addr) (c : Nat) (l : List UInt8) (w : World) (hr : Rd w w.heap.size A (l.map B)) (hl : l.length = 393) (hc : 393 ≤ c) (hm : c ≤ maxLen) (h0 : ¬ (decVote (l.take 23)).2 = 0) :
    Calls Try.prog 48 #[.slice A 393 c] w (SDecErr w (decVote (l.take 23)).2) := by
  obtain ⟨b, o, rfl, hb, hcell⟩ := hr.cells (by intro e; rw [List.map_eq_nil_iff] at e; subst e; simp at hl)
  refine rsdec_bad b o c (decVote (l.take 23)).1 _ (by simpa using h0) w hc hm (fun W hW => ?_)
  have h := rvdec_any (some ⟨b, o, none⟩) c (l.take 23) W (by rw [List.map_take]; exact ((hr.below hW).more hW.size).take 23) (by simp; omega) hm
  rw [List.length_take, show min 23 l.length = 23 from by omega] at h
  exact h
end Go.Proofs.Ythmecidpjlaonaa
namespace Go.Proofs.Ythmecidpjlaonaa
open Go.RowKit
attribute [local go_sem ↓] Go.wp_at_zero Go.wp_at_succ loadNm loadVt loadSg loadEv
attribute [local go_sem] runNm runVt runSg runEv pickRow_some rowAt_drew rowAt_drewN

abbrev zeroEc : Array Value := #[.int .i64 0, .int .i64 0, .int .i64 0, .int .i64 0, .int .i64 0, .int .i64 0, .int .u8 0, .int .u8 0, .int .u8 0, .int .u8 0, .int .u8 0, .int .u8 0, .int .u8 0, .int .u8 0, .int .u8 0, .int .u8 0, .int .u8 0, .int .u8 0, .int .u8 0, .int .u8 0, .int .u8 0, .int .u8 0, .slice none 0 0, .int .i64 0, .int .i64 0, .int .i64 0, .int .i64 0, .int .i64 0, .int .i64 0, .int .u8 0, .int .u8 0, .int .u8 0, .int .u8 0, .int .u8 0, .int .u8 0, .int .u8 0, .int .u8 0, .int .u8 0, .int .u8 0, .int .u8 0, .int .u8 0, .int .u8 0, .int .u8 0, .int .u8 0, .int .u8 0, .slice none 0 0]
theorem one_ze {u : Value} (h : u ∈ zeroEc.toList) : u.oneCell' = true := by
  simp at h
  rcases h with rfl | rfl | rfl | rfl | rfl | rfl <;> rfl
theorem one_ev {u : Value} (e : Ev) (h : u ∈ e.cells.toList) : u.oneCell' = true := by
  unfold Ev.cells at h
  rw [Array.toList_append, List.mem_append] at h
  rcases h with h | h
  · exact one_sg _ h
  · exact one_sg _ h
abbrev sgLit (v : Vt) (x : Value) : Array Value := #[I v.kind, I v.slot, I v.round, I v.choice, I v.signer, I v.support, B v.parent.b0, B v.parent.b1, B v.parent.b2, B v.parent.b3, B v.parent.b4, B v.parent.b5, B v.parent.b6, B v.parent.b7, B v.value.b0, B v.value.b1, B v.value.b2, B v.value.b3, B v.value.b4, B v.value.b5, B v.value.b6, B v.value.b7, x]
abbrev evLit (v : Vt) (x : Value) (v' : Vt) (x' : Value) : Array Value := #[I v.kind, I v.slot, I v.round, I v.choice, I v.signer, I v.support, B v.parent.b0, B v.parent.b1, B v.parent.b2, B v.parent.b3, B v.parent.b4, B v.parent.b5, B v.parent.b6, B v.parent.b7, B v.value.b0, B v.value.b1, B v.value.b2, B v.value.b3, B v.value.b4, B v.value.b5, B v.value.b6, B v.value.b7, x, I v'.kind, I v'.slot, I v'.round, I v'.choice, I v'.signer, I v'.support, B v'.parent.b0, B v'.parent.b1, B v'.parent.b2, B v'.parent.b3, B v'.parent.b4, B v'.parent.b5, B v'.parent.b6, B v'.parent.b7, B v'.value.b0, B v'.value.b1, B v'.value.b2, B v'.value.b3, B v'.value.b4, B v'.value.b5, B v'.value.b6, B v'.value.b7, x']
theorem sg_lit (v : Vt) (sig : List UInt8) (A : Option Addr) (c : Nat) : (Sg.mk v sig A c).cells = sgLit v (.slice A sig.length c) := rfl
theorem ev_lit (v : Vt) (sig : List UInt8) (A : Option Addr) (c : Nat) (v' : Vt) (sig' : List UInt8) (A' : Option Addr) (c' : Nat) :
    (Ev.mk ⟨v, sig, A, c⟩ ⟨v', sig', A', c'⟩).cells = evLit v (.slice A sig.length c) v' (.slice A' sig'.length c') := by
  simp [Ev.cells, Sg.cells]
theorem size_ev : (Try.prog.info? 45).map (·.size) = some 46 := by kernel_rfl
/-- The call returns a pair whose signatures lie in new memory. -/
def EDecOk (w : World) (v : Vt) (sig : List UInt8) (v' : Vt) (sig' : List UInt8) (e : Ending) (w' : World) : Prop :=
  ∃ A c A' c', e = .returned (.tuple #[(Ev.mk ⟨v, sig, A, c⟩ ⟨v', sig', A', c'⟩).val, .int .i64 0]) ∧ (∀ p, A = some p → w.heap.size ≤ p.block) ∧ (∀ p, A' = some p → w.heap.size ≤ p.block) ∧ Rd w' w'.heap.size A (sig.map B) ∧ sig.length ≤ c ∧ c ≤ maxLen ∧ Rd w' w'.heap.size A' (sig'.map B) ∧ sig'.length ≤ c' ∧ c' ≤ maxLen ∧ Below w.heap.size w w'
/-- The call returns an error number, and no pair. -/
def EDecErr (w : World) (n : Int) (e : Ending) (w' : World) : Prop := e = .returned (.tuple #[.agg zeroEc, .int .i64 n]) ∧ Below w.heap.size w w'

set_option maxRecDepth 100000 in
set_option maxHeartbeats 2000000 in
theorem edec_short (A : Option Addr) (n c : Nat) (w : World) (h : n < 786) : Calls Try.prog 62 #[.slice A n c] w (EDecErr w 2) := by
  have hR : Blk (w.alloc (Obj.cells zeroEc 45)) w.heap.size 45 zeroEc := Blk.new w _ _
  go_enter Try.func62, Try.ntmps62
  go_wp2_with (refine wpList_store_blk rfl 45 (.tmp 2) (.tmp 11) rfl w.heap.size zeroEc rfl rfl 45 _ hR rfl size_ev (fun u hu => one_ze hu) ?_)
  intro w1 hR1 hg1 hs1
  go_wp2
  exact bodyPost_ret (results_row_tmp (g := w.heap.size) (cs := zeroEc) rfl _ _ _ _ _ rfl hR1 Try.underlying45 rfl size_ev) rfl ⟨rfl, ((Below.refl _ _).alloc (Nat.le_refl _) _).grown hg1 (by simp) (by rintro j ⟨⟩; omega)⟩

set_option maxRecDepth 100000 in
set_option maxHeartbeats 2000000 in
theorem edec_long (A : Option Addr) (n c : Nat) (w : World) (h : 786 < n) : Calls Try.prog 62 #[.slice A n c] w (EDecErr w 3) := by
  have hR : Blk (w.alloc (Obj.cells zeroEc 45)) w.heap.size 45 zeroEc := Blk.new w _ _
  go_enter Try.func62, Try.ntmps62
  go_wp2_with (refine wpList_store_blk rfl 45 (.tmp 2) (.tmp 16) rfl w.heap.size zeroEc rfl rfl 45 _ hR rfl size_ev (fun u hu => one_ze hu) ?_)
  intro w1 hR1 hg1 hs1
  go_wp2
  exact bodyPost_ret (results_row_tmp (g := w.heap.size) (cs := zeroEc) rfl _ _ _ _ _ rfl hR1 Try.underlying45 rfl size_ev) rfl ⟨rfl, ((Below.refl _ _).alloc (Nat.le_refl _) _).grown hg1 (by simp) (by rintro j ⟨⟩; omega)⟩

set_option maxRecDepth 100000 in
set_option maxHeartbeats 4000000 in
theorem edec_ok (b o c : Nat) (v : Vt) (sig : List UInt8) (v' : Vt) (sig' : List UInt8) (w : World) (hc : 786 ≤ c) (hm : c ≤ maxLen)
    (hd1 : ∀ W, Below w.heap.size w W → Calls Try.prog 47 #[.slice (some ⟨b, o, none⟩) 393 c] W (SDecOk W v sig))
    (hd2 : ∀ W, Below w.heap.size w W → Calls Try.prog 47 #[.slice (some ⟨b, o + 393, none⟩) 393 (c - 393)] W (SDecOk W v' sig')) :
    Calls Try.prog 62 #[.slice (some ⟨b, o, none⟩) 786 c] w (EDecOk w v sig v' sig') := by
  have HD1 := Lib.hid hd1; clear hd1
  have HD2 := Lib.hid hd2; clear hd2
  unfold maxLen at hm
  have i1 : (393 : Int) ≤ (c : Int) := by omega
  have i2 : ¬ c = 393 := by omega
  have i3 : (786 : Int) ≤ (c : Int) := by omega
  go_enter Try.func62, Try.ntmps62
  go_wp2_with fail
  have hR : Blk (w.alloc (Obj.cells zeroEc 45)) w.heap.size 45 zeroEc := Blk.new w _ _
  have hbW : Below w.heap.size w (w.alloc (Obj.cells zeroEc 45)) := (Below.refl _ _).alloc (Nat.le_refl _) _
  generalize (w.alloc (Obj.cells zeroEc 45)) = W at *
  refine (HD1.out _ hbW).mono ?_
  rintro en w1 ⟨A1, c1, rfl, hn1, hr1, hc1, hm1, hb1⟩
  have H1 := Lib.hid hr1; clear hr1
  have N1 : Hid (∀ p, A1 = some p → w.heap.size + 1 ≤ p.block) := fun p hp => Nat.le_trans hR.lt (hn1 p hp)
  clear hn1
  have hR1 := hR.below hb1 hR.lt
  have hbw1 := hbW.trans (hb1.mono hbW.size)
  have hl1 := hR1.lt
  clear hR hbW hb1
  go_wp2_with (refine wpList_store_blk rfl 43 (.tmp 4) (.tmp 21) rfl w1.heap.size (Sg.mk v sig A1 c1).cells rfl rfl 43 zeroSc (Blk.new w1 _ _) (by first | rfl | (rw [Sg.size_cells]; rfl)) (by first | exact size_sg | (rw [Sg.size_cells]; exact size_sg)) (fun u hu => one_sg _ hu) ?_)
  intro w2 hV2 hg2 hs2
  have hR2 := (hR1.alloc (Obj.cells zeroSc 43)).kept hg2 (by simp; omega)
  have hbw2 : Below w.heap.size w w2 := (hbw1.alloc hbw1.size _).grown hg2 (by have := hbw1.size; simp; omega) (by rintro j ⟨⟩; exact hbw1.size)
  have hne : w.heap.size ≠ w1.heap.size := by omega
  have hl12 : w1.heap.size < w2.heap.size := hV2.lt
  have hr2 : Rd w2 w1.heap.size A1 (sig.map B) := (H1.out.alloc (Nat.le_refl _) (Obj.cells zeroSc 43)).keep fun p hp => World.cell?_of_block (hg2.block p.block (by simp; omega) (by simp; omega))
  clear hR1 hbw1 hg2 hs2 hl1
  go_wp2_with fail
  refine (HD2.out _ hbw2).mono ?_
  rintro en w3 ⟨A3, c3, rfl, hn3, hr3, hc3, hm3, hb3⟩
  have H3 := Lib.hid hr3; clear hr3
  have N3 : Hid (∀ p, A3 = some p → w.heap.size + 1 ≤ p.block) := fun p hp => Nat.le_trans hR2.lt (hn3 p hp)
  clear hn3
  have hV3 := hV2.below hb3 hV2.lt
  have hR3 := hR2.below hb3 hR2.lt
  have hbw3 := hbw2.trans (hb3.mono hbw2.size)
  have hr3 : Rd w3 w1.heap.size A1 (sig.map B) := hr2.below (hb3.mono (by omega))
  have hl3 := hR3.lt
  have hl13 := hV3.lt
  clear hR2 hbw2 hb3 hV2 hr2
  go_wp2_with (refine wpList_store_blk rfl 43 (.tmp 6) (.tmp 31) rfl w3.heap.size (Sg.mk v' sig' A3 c3).cells rfl rfl 43 zeroSc (Blk.new w3 _ _) (by first | rfl | (rw [Sg.size_cells]; rfl)) (by first | exact size_sg | (rw [Sg.size_cells]; exact size_sg)) (fun u hu => one_sg _ hu) ?_)
  intro w4 hY4 hg4 hs4
  have hR4 := (hR3.alloc (Obj.cells zeroSc 43)).kept hg4 (by simp; omega)
  have hV4 := (hV3.alloc (Obj.cells zeroSc 43)).kept hg4 (by simp; omega)
  have hbw4 : Below w.heap.size w w4 := (hbw3.alloc hbw3.size _).grown hg4 (by have := hbw3.size; simp; omega) (by rintro j ⟨⟩; exact hbw3.size)
  have hl4 := hY4.lt
  have hr4 : Rd w4 w1.heap.size A1 (sig.map B) := (hr3.alloc (by omega) (Obj.cells zeroSc 43)).keep fun p hp => World.cell?_of_block (hg4.block p.block (by simp; omega) (by simp; omega))
  have hy4 : Rd w4 w3.heap.size A3 (sig'.map B) := (H3.out.alloc (Nat.le_refl _) (Obj.cells zeroSc 43)).keep fun p hp => World.cell?_of_block (hg4.block p.block (by simp; omega) (by simp; omega))
  clear hR3 hbw3 hg4 hs4 hV3 hr3
  have x4 : rowAt w4 w1.heap.size 0 23 = some (sgLit v (.slice A1 sig.length c1)) := hV4.row 23 (Sg.size_cells _)
  have y4 : rowAt w4 w3.heap.size 0 23 = some (sgLit v' (.slice A3 sig'.length c3)) := hY4.row 23 (Sg.size_cells _)
  have HO : Hid (∀ u ∈ (evLit v (.slice A1 sig.length c1) v' (.slice A3 sig'.length c3)).toList, u.oneCell' = true) := fun u hu => one_ev (Ev.mk ⟨v, sig, A1, c1⟩ ⟨v', sig', A3, c3⟩) (by rw [ev_lit]; exact hu)
  go_wp2_with (refine wpList_store_blk rfl 45 (.tmp 2) (.tmp 39) rfl w.heap.size (evLit v (.slice A1 sig.length c1) v' (.slice A3 sig'.length c3)) rfl rfl 45 zeroEc hR4 rfl size_ev HO.out ?_)
  intro w5 hR5 hg5 hs5
  rw [← ev_lit] at hR5
  go_wp2
  refine bodyPost_ret (results_row_tmp (g := w.heap.size) (cs := (Ev.mk ⟨v, sig, A1, c1⟩ ⟨v', sig', A3, c3⟩).cells) rfl _ _ _ _ _ rfl hR5 Try.underlying45 rfl (by rw [Ev.size_cells]; exact size_ev)) rfl ?_
  refine ⟨A1, c1, A3, c3, rfl, fun p hp => ?_, fun p hp => ?_, (hr4.kept hg5 (by omega) (fun p hp => ?_)).more (by omega), hc1, hm1, (hy4.kept hg5 (by omega) (fun p hp => ?_)).more (by omega), hc3, hm3, hbw4.grown hg5 hbw4.size (by rintro j ⟨⟩; omega)⟩
  · have := N1.out p hp; omega
  · have := N3.out p hp; omega
  · have := N1.out p hp; simp; omega
  · have := N3.out p hp; simp; omega

set_option maxRecDepth 100000 in
set_option maxHeartbeats 4000000 in
theorem edec_bad1 (b o c : Nat) (n : Int) (hn : (n != 0) = true) (w : World) (hc : 786 ≤ c) (hm : c ≤ maxLen)
    (hd1 : ∀ W, Below w.heap.size w W → Calls Try.prog 47 #[.slice (some ⟨b, o, none⟩) 393 c] W (SDecErr W n)) :
    Calls Try.prog 62 #[.slice (some ⟨b, o, none⟩) 786 c] w (EDecErr w n) := by
  have HD1 := Lib.hid hd1; clear hd1
  unfold maxLen at hm
  have i1 : (393 : Int) ≤ (c : Int) := by omega
  have i2 : ¬ c = 393 := by omega
  have i3 : (786 : Int) ≤ (c : Int) := by omega
  go_enter Try.func62, Try.ntmps62
  go_wp2_with fail
  have hR : Blk (w.alloc (Obj.cells zeroEc 45)) w.heap.size 45 zeroEc := Blk.new w _ _
  have hbW : Below w.heap.size w (w.alloc (Obj.cells zeroEc 45)) := (Below.refl _ _).alloc (Nat.le_refl _) _
  generalize (w.alloc (Obj.cells zeroEc 45)) = W at *
  refine (HD1.out _ hbW).mono ?_
  rintro en w1 ⟨rfl, hb1⟩
  have hR1 := hR.below hb1 hR.lt
  have hbw1 := hbW.trans (hb1.mono hbW.size)
  have hl1 := hR1.lt
  clear hR hbW hb1
  go_wp2_with (refine wpList_store_blk rfl 43 (.tmp 4) (.tmp 21) rfl w1.heap.size zeroSc rfl rfl 43 zeroSc (Blk.new w1 _ _) (by first | rfl | (rw [Sg.size_cells]; rfl)) (by first | exact size_sg | (rw [Sg.size_cells]; exact size_sg)) (fun u hu => one_zs hu) ?_)
  intro w2 hV2 hg2 hs2
  have hR2 := (hR1.alloc (Obj.cells zeroSc 43)).kept hg2 (by simp; omega)
  have hbw2 : Below w.heap.size w w2 := (hbw1.alloc hbw1.size _).grown hg2 (by have := hbw1.size; simp; omega) (by rintro j ⟨⟩; exact hbw1.size)
  have hne : w.heap.size ≠ w1.heap.size := by omega
  have hl12 : w1.heap.size < w2.heap.size := hV2.lt
  clear hR1 hbw1 hg2 hs2 hl1
  go_wp2_with (refine wpList_store_blk rfl 45 (.tmp 2) (.tmp 25) rfl w.heap.size zeroEc rfl rfl 45 _ hR2 rfl size_ev (fun u hu => one_ze hu) ?_)
  intro w5 hR5 hg5 hs5
  go_wp2
  exact bodyPost_ret (results_row_tmp (g := w.heap.size) (cs := zeroEc) rfl _ _ _ _ _ rfl hR5 Try.underlying45 rfl size_ev) rfl ⟨rfl, hbw2.grown hg5 hbw2.size (by rintro j ⟨⟩; omega)⟩

set_option maxRecDepth 100000 in
set_option maxHeartbeats 4000000 in
theorem edec_bad2 (b o c : Nat) (v : Vt) (sig : List UInt8) (n : Int) (hn : (n != 0) = true) (w : World) (hc : 786 ≤ c) (hm : c ≤ maxLen)
    (hd1 : ∀ W, Below w.heap.size w W → Calls Try.prog 47 #[.slice (some ⟨b, o, none⟩) 393 c] W (SDecOk W v sig))
    (hd2 : ∀ W, Below w.heap.size w W → Calls Try.prog 47 #[.slice (some ⟨b, o + 393, none⟩) 393 (c - 393)] W (SDecErr W n)) :
    Calls Try.prog 62 #[.slice (some ⟨b, o, none⟩) 786 c] w (EDecErr w n) := by
  have HD1 := Lib.hid hd1; clear hd1
  have HD2 := Lib.hid hd2; clear hd2
  unfold maxLen at hm
  have i1 : (393 : Int) ≤ (c : Int) := by omega
  have i2 : ¬ c = 393 := by omega
  have i3 : (786 : Int) ≤ (c : Int) := by omega
  go_enter Try.func62, Try.ntmps62
  go_wp2_with fail
  have hR : Blk (w.alloc (Obj.cells zeroEc 45)) w.heap.size 45 zeroEc := Blk.new w _ _
  have hbW : Below w.heap.size w (w.alloc (Obj.cells zeroEc 45)) := (Below.refl _ _).alloc (Nat.le_refl _) _
  generalize (w.alloc (Obj.cells zeroEc 45)) = W at *
  refine (HD1.out _ hbW).mono ?_
  rintro en w1 ⟨A1, c1, rfl, hn1, hr1, hc1, hm1, hb1⟩
  have H1 := Lib.hid hr1; clear hr1
  have N1 : Hid (∀ p, A1 = some p → w.heap.size + 1 ≤ p.block) := fun p hp => Nat.le_trans hR.lt (hn1 p hp)
  clear hn1
  have hR1 := hR.below hb1 hR.lt
  have hbw1 := hbW.trans (hb1.mono hbW.size)
  have hl1 := hR1.lt
  clear hR hbW hb1
  go_wp2_with (refine wpList_store_blk rfl 43 (.tmp 4) (.tmp 21) rfl w1.heap.size (Sg.mk v sig A1 c1).cells rfl rfl 43 zeroSc (Blk.new w1 _ _) (by first | rfl | (rw [Sg.size_cells]; rfl)) (by first | exact size_sg | (rw [Sg.size_cells]; exact size_sg)) (fun u hu => one_sg _ hu) ?_)
  intro w2 hV2 hg2 hs2
  have hR2 := (hR1.alloc (Obj.cells zeroSc 43)).kept hg2 (by simp; omega)
  have hbw2 : Below w.heap.size w w2 := (hbw1.alloc hbw1.size _).grown hg2 (by have := hbw1.size; simp; omega) (by rintro j ⟨⟩; exact hbw1.size)
  have hne : w.heap.size ≠ w1.heap.size := by omega
  have hl12 : w1.heap.size < w2.heap.size := hV2.lt
  have hr2 : Rd w2 w1.heap.size A1 (sig.map B) := (H1.out.alloc (Nat.le_refl _) (Obj.cells zeroSc 43)).keep fun p hp => World.cell?_of_block (hg2.block p.block (by simp; omega) (by simp; omega))
  clear hR1 hbw1 hg2 hs2 hl1
  go_wp2_with fail
  refine (HD2.out _ hbw2).mono ?_
  rintro en w3 ⟨rfl, hb3⟩
  have hV3 := hV2.below hb3 hV2.lt
  have hR3 := hR2.below hb3 hR2.lt
  have hbw3 := hbw2.trans (hb3.mono hbw2.size)
  have hr3 : Rd w3 w1.heap.size A1 (sig.map B) := hr2.below (hb3.mono (by omega))
  have hl3 := hR3.lt
  have hl13 := hV3.lt
  clear hR2 hbw2 hb3 hV2 hr2
  go_wp2_with (refine wpList_store_blk rfl 43 (.tmp 6) (.tmp 31) rfl w3.heap.size zeroSc rfl rfl 43 zeroSc (Blk.new w3 _ _) (by first | rfl | (rw [Sg.size_cells]; rfl)) (by first | exact size_sg | (rw [Sg.size_cells]; exact size_sg)) (fun u hu => one_zs hu) ?_)
  intro w4 hY4 hg4 hs4
  have hR4 := (hR3.alloc (Obj.cells zeroSc 43)).kept hg4 (by simp; omega)
  have hV4 := (hV3.alloc (Obj.cells zeroSc 43)).kept hg4 (by simp; omega)
  have hbw4 : Below w.heap.size w w4 := (hbw3.alloc hbw3.size _).grown hg4 (by have := hbw3.size; simp; omega) (by rintro j ⟨⟩; exact hbw3.size)
  have hl4 := hY4.lt
  have hr4 : Rd w4 w1.heap.size A1 (sig.map B) := (hr3.alloc (by omega) (Obj.cells zeroSc 43)).keep fun p hp => World.cell?_of_block (hg4.block p.block (by simp; omega) (by simp; omega))
  clear hR3 hbw3 hg4 hs4 hV3 hr3
  go_wp2_with (refine wpList_store_blk rfl 45 (.tmp 2) (.tmp 35) rfl w.heap.size zeroEc rfl rfl 45 _ hR4 rfl size_ev (fun u hu => one_ze hu) ?_)
  intro w5 hR5 hg5 hs5
  go_wp2
  exact bodyPost_ret (results_row_tmp (g := w.heap.size) (cs := zeroEc) rfl _ _ _ _ _ rfl hR5 Try.underlying45 rfl size_ev) rfl ⟨rfl, hbw4.grown hg5 hbw4.size (by rintro j ⟨⟩; omega)⟩

set_option maxRecDepth 100000 in
set_option maxHeartbeats 2000000 in
theorem redec_short (A : Option Addr) (n c : Nat) (w : World) (h : n < 786) : Calls Try.prog 26 #[.slice A n c] w (EDecErr w 2) := by
  have hR : Blk (w.alloc (Obj.cells zeroEc 45)) w.heap.size 45 zeroEc := Blk.new w _ _
  go_enter Try.func26, Try.ntmps26
  go_wp2_with (refine wpList_store_blk rfl 45 (.tmp 2) (.tmp 11) rfl w.heap.size zeroEc rfl rfl 45 _ hR rfl size_ev (fun u hu => one_ze hu) ?_)
  intro w1 hR1 hg1 hs1
  go_wp2
  exact bodyPost_ret (results_row_tmp (g := w.heap.size) (cs := zeroEc) rfl _ _ _ _ _ rfl hR1 Try.underlying45 rfl size_ev) rfl ⟨rfl, ((Below.refl _ _).alloc (Nat.le_refl _) _).grown hg1 (by simp) (by rintro j ⟨⟩; omega)⟩

set_option maxRecDepth 100000 in
set_option maxHeartbeats 2000000 in
theorem redec_long (A : Option Addr) (n c : Nat) (w : World) (h : 786 < n) : Calls Try.prog 26 #[.slice A n c] w (EDecErr w 3) := by
  have hR : Blk (w.alloc (Obj.cells zeroEc 45)) w.heap.size 45 zeroEc := Blk.new w _ _
  go_enter Try.func26, Try.ntmps26
  go_wp2_with (refine wpList_store_blk rfl 45 (.tmp 2) (.tmp 15) rfl w.heap.size zeroEc rfl rfl 45 _ hR rfl size_ev (fun u hu => one_ze hu) ?_)
  intro w1 hR1 hg1 hs1
  go_wp2
  exact bodyPost_ret (results_row_tmp (g := w.heap.size) (cs := zeroEc) rfl _ _ _ _ _ rfl hR1 Try.underlying45 rfl size_ev) rfl ⟨rfl, ((Below.refl _ _).alloc (Nat.le_refl _) _).grown hg1 (by simp) (by rintro j ⟨⟩; omega)⟩

set_option maxRecDepth 100000 in
set_option maxHeartbeats 4000000 in
theorem redec_ok (b o c : Nat) (v : Vt) (sig : List UInt8) (v' : Vt) (sig' : List UInt8) (w : World) (hc : 786 ≤ c) (hm : c ≤ maxLen)
    (hd1 : ∀ W, Below w.heap.size w W → Calls Try.prog 48 #[.slice (some ⟨b, o, none⟩) 393 c] W (SDecOk W v sig))
    (hd2 : ∀ W, Below w.heap.size w W → Calls Try.prog 48 #[.slice (some ⟨b, o + 393, none⟩) 393 (c - 393)] W (SDecOk W v' sig')) :
    Calls Try.prog 26 #[.slice (some ⟨b, o, none⟩) 786 c] w (EDecOk w v sig v' sig') := by
  have HD1 := Lib.hid hd1; clear hd1
  have HD2 := Lib.hid hd2; clear hd2
  unfold maxLen at hm
  have i1 : (393 : Int) ≤ (c : Int) := by omega
  have i2 : ¬ c = 393 := by omega
  have i3 : (786 : Int) ≤ (c : Int) := by omega
  go_enter Try.func26, Try.ntmps26
  go_wp2_with fail
  have hR : Blk (w.alloc (Obj.cells zeroEc 45)) w.heap.size 45 zeroEc := Blk.new w _ _
  have hbW : Below w.heap.size w (w.alloc (Obj.cells zeroEc 45)) := (Below.refl _ _).alloc (Nat.le_refl _) _
  generalize (w.alloc (Obj.cells zeroEc 45)) = W at *
  refine (HD1.out _ hbW).mono ?_
  rintro en w1 ⟨A1, c1, rfl, hn1, hr1, hc1, hm1, hb1⟩
  have H1 := Lib.hid hr1; clear hr1
  have N1 : Hid (∀ p, A1 = some p → w.heap.size + 1 ≤ p.block) := fun p hp => Nat.le_trans hR.lt (hn1 p hp)
  clear hn1
  have hR1 := hR.below hb1 hR.lt
  have hbw1 := hbW.trans (hb1.mono hbW.size)
  have hl1 := hR1.lt
  clear hR hbW hb1
  go_wp2_with (refine wpList_store_blk rfl 43 (.tmp 4) (.tmp 20) rfl w1.heap.size (Sg.mk v sig A1 c1).cells rfl rfl 43 zeroSc (Blk.new w1 _ _) (by first | rfl | (rw [Sg.size_cells]; rfl)) (by first | exact size_sg | (rw [Sg.size_cells]; exact size_sg)) (fun u hu => one_sg _ hu) ?_)
  intro w2 hV2 hg2 hs2
  have hR2 := (hR1.alloc (Obj.cells zeroSc 43)).kept hg2 (by simp; omega)
  have hbw2 : Below w.heap.size w w2 := (hbw1.alloc hbw1.size _).grown hg2 (by have := hbw1.size; simp; omega) (by rintro j ⟨⟩; exact hbw1.size)
  have hne : w.heap.size ≠ w1.heap.size := by omega
  have hl12 : w1.heap.size < w2.heap.size := hV2.lt
  have hr2 : Rd w2 w1.heap.size A1 (sig.map B) := (H1.out.alloc (Nat.le_refl _) (Obj.cells zeroSc 43)).keep fun p hp => World.cell?_of_block (hg2.block p.block (by simp; omega) (by simp; omega))
  clear hR1 hbw1 hg2 hs2 hl1
  go_wp2_with fail
  refine (HD2.out _ hbw2).mono ?_
  rintro en w3 ⟨A3, c3, rfl, hn3, hr3, hc3, hm3, hb3⟩
  have H3 := Lib.hid hr3; clear hr3
  have N3 : Hid (∀ p, A3 = some p → w.heap.size + 1 ≤ p.block) := fun p hp => Nat.le_trans hR2.lt (hn3 p hp)
  clear hn3
  have hV3 := hV2.below hb3 hV2.lt
  have hR3 := hR2.below hb3 hR2.lt
  have hbw3 := hbw2.trans (hb3.mono hbw2.size)
  have hr3 : Rd w3 w1.heap.size A1 (sig.map B) := hr2.below (hb3.mono (by omega))
  have hl3 := hR3.lt
  have hl13 := hV3.lt
  clear hR2 hbw2 hb3 hV2 hr2
  go_wp2_with (refine wpList_store_blk rfl 43 (.tmp 6) (.tmp 26) rfl w3.heap.size (Sg.mk v' sig' A3 c3).cells rfl rfl 43 zeroSc (Blk.new w3 _ _) (by first | rfl | (rw [Sg.size_cells]; rfl)) (by first | exact size_sg | (rw [Sg.size_cells]; exact size_sg)) (fun u hu => one_sg _ hu) ?_)
  intro w4 hY4 hg4 hs4
  have hR4 := (hR3.alloc (Obj.cells zeroSc 43)).kept hg4 (by simp; omega)
  have hV4 := (hV3.alloc (Obj.cells zeroSc 43)).kept hg4 (by simp; omega)
  have hbw4 : Below w.heap.size w w4 := (hbw3.alloc hbw3.size _).grown hg4 (by have := hbw3.size; simp; omega) (by rintro j ⟨⟩; exact hbw3.size)
  have hl4 := hY4.lt
  have hr4 : Rd w4 w1.heap.size A1 (sig.map B) := (hr3.alloc (by omega) (Obj.cells zeroSc 43)).keep fun p hp => World.cell?_of_block (hg4.block p.block (by simp; omega) (by simp; omega))
  have hy4 : Rd w4 w3.heap.size A3 (sig'.map B) := (H3.out.alloc (Nat.le_refl _) (Obj.cells zeroSc 43)).keep fun p hp => World.cell?_of_block (hg4.block p.block (by simp; omega) (by simp; omega))
  clear hR3 hbw3 hg4 hs4 hV3 hr3
  have x4 : rowAt w4 w1.heap.size 0 23 = some (sgLit v (.slice A1 sig.length c1)) := hV4.row 23 (Sg.size_cells _)
  have y4 : rowAt w4 w3.heap.size 0 23 = some (sgLit v' (.slice A3 sig'.length c3)) := hY4.row 23 (Sg.size_cells _)
  have HO : Hid (∀ u ∈ (evLit v (.slice A1 sig.length c1) v' (.slice A3 sig'.length c3)).toList, u.oneCell' = true) := fun u hu => one_ev (Ev.mk ⟨v, sig, A1, c1⟩ ⟨v', sig', A3, c3⟩) (by rw [ev_lit]; exact hu)
  go_wp2_with (refine wpList_store_blk rfl 45 (.tmp 2) (.tmp 37) rfl w.heap.size (evLit v (.slice A1 sig.length c1) v' (.slice A3 sig'.length c3)) rfl rfl 45 zeroEc hR4 rfl size_ev HO.out ?_)
  intro w5 hR5 hg5 hs5
  rw [← ev_lit] at hR5
  go_wp2
  refine bodyPost_ret (results_row_tmp (g := w.heap.size) (cs := (Ev.mk ⟨v, sig, A1, c1⟩ ⟨v', sig', A3, c3⟩).cells) rfl _ _ _ _ _ rfl hR5 Try.underlying45 rfl (by rw [Ev.size_cells]; exact size_ev)) rfl ?_
  refine ⟨A1, c1, A3, c3, rfl, fun p hp => ?_, fun p hp => ?_, (hr4.kept hg5 (by omega) (fun p hp => ?_)).more (by omega), hc1, hm1, (hy4.kept hg5 (by omega) (fun p hp => ?_)).more (by omega), hc3, hm3, hbw4.grown hg5 hbw4.size (by rintro j ⟨⟩; omega)⟩
  · have := N1.out p hp; omega
  · have := N3.out p hp; omega
  · have := N1.out p hp; simp; omega
  · have := N3.out p hp; simp; omega

set_option maxRecDepth 100000 in
set_option maxHeartbeats 4000000 in
theorem redec_bad00 (b o c : Nat) (n : Int) (hn : (n != 0) = true) (n' : Int) (w : World) (hc : 786 ≤ c) (hm : c ≤ maxLen)
    (hd1 : ∀ W, Below w.heap.size w W → Calls Try.prog 48 #[.slice (some ⟨b, o, none⟩) 393 c] W (SDecErr W n))
    (hd2 : ∀ W, Below w.heap.size w W → Calls Try.prog 48 #[.slice (some ⟨b, o + 393, none⟩) 393 (c - 393)] W (SDecErr W n')) :
    Calls Try.prog 26 #[.slice (some ⟨b, o, none⟩) 786 c] w (EDecErr w 11) := by
  have HD1 := Lib.hid hd1; clear hd1
  have HD2 := Lib.hid hd2; clear hd2
  unfold maxLen at hm
  have i1 : (393 : Int) ≤ (c : Int) := by omega
  have i2 : ¬ c = 393 := by omega
  have i3 : (786 : Int) ≤ (c : Int) := by omega
  go_enter Try.func26, Try.ntmps26
  go_wp2_with fail
  have hR : Blk (w.alloc (Obj.cells zeroEc 45)) w.heap.size 45 zeroEc := Blk.new w _ _
  have hbW : Below w.heap.size w (w.alloc (Obj.cells zeroEc 45)) := (Below.refl _ _).alloc (Nat.le_refl _) _
  generalize (w.alloc (Obj.cells zeroEc 45)) = W at *
  refine (HD1.out _ hbW).mono ?_
  rintro en w1 ⟨rfl, hb1⟩
  have hR1 := hR.below hb1 hR.lt
  have hbw1 := hbW.trans (hb1.mono hbW.size)
  have hl1 := hR1.lt
  clear hR hbW hb1
  go_wp2_with (refine wpList_store_blk rfl 43 (.tmp 4) (.tmp 20) rfl w1.heap.size zeroSc rfl rfl 43 zeroSc (Blk.new w1 _ _) (by first | rfl | (rw [Sg.size_cells]; rfl)) (by first | exact size_sg | (rw [Sg.size_cells]; exact size_sg)) (fun u hu => one_zs hu) ?_)
  intro w2 hV2 hg2 hs2
  have hR2 := (hR1.alloc (Obj.cells zeroSc 43)).kept hg2 (by simp; omega)
  have hbw2 : Below w.heap.size w w2 := (hbw1.alloc hbw1.size _).grown hg2 (by have := hbw1.size; simp; omega) (by rintro j ⟨⟩; exact hbw1.size)
  have hne : w.heap.size ≠ w1.heap.size := by omega
  have hl12 : w1.heap.size < w2.heap.size := hV2.lt
  clear hR1 hbw1 hg2 hs2 hl1
  go_wp2_with fail
  refine (HD2.out _ hbw2).mono ?_
  rintro en w3 ⟨rfl, hb3⟩
  have hV3 := hV2.below hb3 hV2.lt
  have hR3 := hR2.below hb3 hR2.lt
  have hbw3 := hbw2.trans (hb3.mono hbw2.size)
  have hl3 := hR3.lt
  have hl13 := hV3.lt
  clear hR2 hbw2 hb3 hV2
  go_wp2_with (refine wpList_store_blk rfl 43 (.tmp 6) (.tmp 26) rfl w3.heap.size zeroSc rfl rfl 43 zeroSc (Blk.new w3 _ _) (by first | rfl | (rw [Sg.size_cells]; rfl)) (by first | exact size_sg | (rw [Sg.size_cells]; exact size_sg)) (fun u hu => one_zs hu) ?_)
  intro w4 hY4 hg4 hs4
  have hR4 := (hR3.alloc (Obj.cells zeroSc 43)).kept hg4 (by simp; omega)
  have hV4 := (hV3.alloc (Obj.cells zeroSc 43)).kept hg4 (by simp; omega)
  have hbw4 : Below w.heap.size w w4 := (hbw3.alloc hbw3.size _).grown hg4 (by have := hbw3.size; simp; omega) (by rintro j ⟨⟩; exact hbw3.size)
  have hl4 := hY4.lt
  clear hR3 hbw3 hg4 hs4 hV3
  go_wp2_with (refine wpList_store_blk rfl 45 (.tmp 2) (.tmp 34) rfl w.heap.size zeroEc rfl rfl 45 _ hR4 rfl size_ev (fun u hu => one_ze hu) ?_)
  intro w5 hR5 hg5 hs5
  go_wp2
  exact bodyPost_ret (results_row_tmp (g := w.heap.size) (cs := zeroEc) rfl _ _ _ _ _ rfl hR5 Try.underlying45 rfl size_ev) rfl ⟨rfl, hbw4.grown hg5 hbw4.size (by rintro j ⟨⟩; omega)⟩

set_option maxRecDepth 100000 in
set_option maxHeartbeats 4000000 in
theorem redec_bad01 (b o c : Nat) (v' : Vt) (sig' : List UInt8) (n : Int) (hn : (n != 0) = true) (w : World) (hc : 786 ≤ c) (hm : c ≤ maxLen)
    (hd1 : ∀ W, Below w.heap.size w W → Calls Try.prog 48 #[.slice (some ⟨b, o, none⟩) 393 c] W (SDecErr W n))
    (hd2 : ∀ W, Below w.heap.size w W → Calls Try.prog 48 #[.slice (some ⟨b, o + 393, none⟩) 393 (c - 393)] W (SDecOk W v' sig')) :
    Calls Try.prog 26 #[.slice (some ⟨b, o, none⟩) 786 c] w (EDecErr w 11) := by
  have HD1 := Lib.hid hd1; clear hd1
  have HD2 := Lib.hid hd2; clear hd2
  unfold maxLen at hm
  have i1 : (393 : Int) ≤ (c : Int) := by omega
  have i2 : ¬ c = 393 := by omega
  have i3 : (786 : Int) ≤ (c : Int) := by omega
  go_enter Try.func26, Try.ntmps26
  go_wp2_with fail
  have hR : Blk (w.alloc (Obj.cells zeroEc 45)) w.heap.size 45 zeroEc := Blk.new w _ _
  have hbW : Below w.heap.size w (w.alloc (Obj.cells zeroEc 45)) := (Below.refl _ _).alloc (Nat.le_refl _) _
  generalize (w.alloc (Obj.cells zeroEc 45)) = W at *
  refine (HD1.out _ hbW).mono ?_
  rintro en w1 ⟨rfl, hb1⟩
  have hR1 := hR.below hb1 hR.lt
  have hbw1 := hbW.trans (hb1.mono hbW.size)
  have hl1 := hR1.lt
  clear hR hbW hb1
  go_wp2_with (refine wpList_store_blk rfl 43 (.tmp 4) (.tmp 20) rfl w1.heap.size zeroSc rfl rfl 43 zeroSc (Blk.new w1 _ _) (by first | rfl | (rw [Sg.size_cells]; rfl)) (by first | exact size_sg | (rw [Sg.size_cells]; exact size_sg)) (fun u hu => one_zs hu) ?_)
  intro w2 hV2 hg2 hs2
  have hR2 := (hR1.alloc (Obj.cells zeroSc 43)).kept hg2 (by simp; omega)
  have hbw2 : Below w.heap.size w w2 := (hbw1.alloc hbw1.size _).grown hg2 (by have := hbw1.size; simp; omega) (by rintro j ⟨⟩; exact hbw1.size)
  have hne : w.heap.size ≠ w1.heap.size := by omega
  have hl12 : w1.heap.size < w2.heap.size := hV2.lt
  clear hR1 hbw1 hg2 hs2 hl1
  go_wp2_with fail
  refine (HD2.out _ hbw2).mono ?_
  rintro en w3 ⟨A3, c3, rfl, hn3, hr3, hc3, hm3, hb3⟩
  have H3 := Lib.hid hr3; clear hr3
  have N3 : Hid (∀ p, A3 = some p → w.heap.size + 1 ≤ p.block) := fun p hp => Nat.le_trans hR2.lt (hn3 p hp)
  clear hn3
  have hV3 := hV2.below hb3 hV2.lt
  have hR3 := hR2.below hb3 hR2.lt
  have hbw3 := hbw2.trans (hb3.mono hbw2.size)
  have hl3 := hR3.lt
  have hl13 := hV3.lt
  clear hR2 hbw2 hb3 hV2
  go_wp2_with (refine wpList_store_blk rfl 43 (.tmp 6) (.tmp 26) rfl w3.heap.size (Sg.mk v' sig' A3 c3).cells rfl rfl 43 zeroSc (Blk.new w3 _ _) (by first | rfl | (rw [Sg.size_cells]; rfl)) (by first | exact size_sg | (rw [Sg.size_cells]; exact size_sg)) (fun u hu => one_sg _ hu) ?_)
  intro w4 hY4 hg4 hs4
  have hR4 := (hR3.alloc (Obj.cells zeroSc 43)).kept hg4 (by simp; omega)
  have hV4 := (hV3.alloc (Obj.cells zeroSc 43)).kept hg4 (by simp; omega)
  have hbw4 : Below w.heap.size w w4 := (hbw3.alloc hbw3.size _).grown hg4 (by have := hbw3.size; simp; omega) (by rintro j ⟨⟩; exact hbw3.size)
  have hl4 := hY4.lt
  have hy4 : Rd w4 w3.heap.size A3 (sig'.map B) := (H3.out.alloc (Nat.le_refl _) (Obj.cells zeroSc 43)).keep fun p hp => World.cell?_of_block (hg4.block p.block (by simp; omega) (by simp; omega))
  clear hR3 hbw3 hg4 hs4 hV3
  go_wp2_with (refine wpList_store_blk rfl 45 (.tmp 2) (.tmp 34) rfl w.heap.size zeroEc rfl rfl 45 _ hR4 rfl size_ev (fun u hu => one_ze hu) ?_)
  intro w5 hR5 hg5 hs5
  go_wp2
  exact bodyPost_ret (results_row_tmp (g := w.heap.size) (cs := zeroEc) rfl _ _ _ _ _ rfl hR5 Try.underlying45 rfl size_ev) rfl ⟨rfl, hbw4.grown hg5 hbw4.size (by rintro j ⟨⟩; omega)⟩

set_option maxRecDepth 100000 in
set_option maxHeartbeats 4000000 in
theorem redec_bad10 (b o c : Nat) (v : Vt) (sig : List UInt8) (n : Int) (hn : (n != 0) = true) (w : World) (hc : 786 ≤ c) (hm : c ≤ maxLen)
    (hd1 : ∀ W, Below w.heap.size w W → Calls Try.prog 48 #[.slice (some ⟨b, o, none⟩) 393 c] W (SDecOk W v sig))
    (hd2 : ∀ W, Below w.heap.size w W → Calls Try.prog 48 #[.slice (some ⟨b, o + 393, none⟩) 393 (c - 393)] W (SDecErr W n)) :
    Calls Try.prog 26 #[.slice (some ⟨b, o, none⟩) 786 c] w (EDecErr w 11) := by
  have HD1 := Lib.hid hd1; clear hd1
  have HD2 := Lib.hid hd2; clear hd2
  unfold maxLen at hm
  have i1 : (393 : Int) ≤ (c : Int) := by omega
  have i2 : ¬ c = 393 := by omega
  have i3 : (786 : Int) ≤ (c : Int) := by omega
  go_enter Try.func26, Try.ntmps26
  go_wp2_with fail
  have hR : Blk (w.alloc (Obj.cells zeroEc 45)) w.heap.size 45 zeroEc := Blk.new w _ _
  have hbW : Below w.heap.size w (w.alloc (Obj.cells zeroEc 45)) := (Below.refl _ _).alloc (Nat.le_refl _) _
  generalize (w.alloc (Obj.cells zeroEc 45)) = W at *
  refine (HD1.out _ hbW).mono ?_
  rintro en w1 ⟨A1, c1, rfl, hn1, hr1, hc1, hm1, hb1⟩
  have H1 := Lib.hid hr1; clear hr1
  have N1 : Hid (∀ p, A1 = some p → w.heap.size + 1 ≤ p.block) := fun p hp => Nat.le_trans hR.lt (hn1 p hp)
  clear hn1
  have hR1 := hR.below hb1 hR.lt
  have hbw1 := hbW.trans (hb1.mono hbW.size)
  have hl1 := hR1.lt
  clear hR hbW hb1
  go_wp2_with (refine wpList_store_blk rfl 43 (.tmp 4) (.tmp 20) rfl w1.heap.size (Sg.mk v sig A1 c1).cells rfl rfl 43 zeroSc (Blk.new w1 _ _) (by first | rfl | (rw [Sg.size_cells]; rfl)) (by first | exact size_sg | (rw [Sg.size_cells]; exact size_sg)) (fun u hu => one_sg _ hu) ?_)
  intro w2 hV2 hg2 hs2
  have hR2 := (hR1.alloc (Obj.cells zeroSc 43)).kept hg2 (by simp; omega)
  have hbw2 : Below w.heap.size w w2 := (hbw1.alloc hbw1.size _).grown hg2 (by have := hbw1.size; simp; omega) (by rintro j ⟨⟩; exact hbw1.size)
  have hne : w.heap.size ≠ w1.heap.size := by omega
  have hl12 : w1.heap.size < w2.heap.size := hV2.lt
  have hr2 : Rd w2 w1.heap.size A1 (sig.map B) := (H1.out.alloc (Nat.le_refl _) (Obj.cells zeroSc 43)).keep fun p hp => World.cell?_of_block (hg2.block p.block (by simp; omega) (by simp; omega))
  clear hR1 hbw1 hg2 hs2 hl1
  go_wp2_with fail
  refine (HD2.out _ hbw2).mono ?_
  rintro en w3 ⟨rfl, hb3⟩
  have hV3 := hV2.below hb3 hV2.lt
  have hR3 := hR2.below hb3 hR2.lt
  have hbw3 := hbw2.trans (hb3.mono hbw2.size)
  have hr3 : Rd w3 w1.heap.size A1 (sig.map B) := hr2.below (hb3.mono (by omega))
  have hl3 := hR3.lt
  have hl13 := hV3.lt
  clear hR2 hbw2 hb3 hV2 hr2
  go_wp2_with (refine wpList_store_blk rfl 43 (.tmp 6) (.tmp 26) rfl w3.heap.size zeroSc rfl rfl 43 zeroSc (Blk.new w3 _ _) (by first | rfl | (rw [Sg.size_cells]; rfl)) (by first | exact size_sg | (rw [Sg.size_cells]; exact size_sg)) (fun u hu => one_zs hu) ?_)
  intro w4 hY4 hg4 hs4
  have hR4 := (hR3.alloc (Obj.cells zeroSc 43)).kept hg4 (by simp; omega)
  have hV4 := (hV3.alloc (Obj.cells zeroSc 43)).kept hg4 (by simp; omega)
  have hbw4 : Below w.heap.size w w4 := (hbw3.alloc hbw3.size _).grown hg4 (by have := hbw3.size; simp; omega) (by rintro j ⟨⟩; exact hbw3.size)
  have hl4 := hY4.lt
  have hr4 : Rd w4 w1.heap.size A1 (sig.map B) := (hr3.alloc (by omega) (Obj.cells zeroSc 43)).keep fun p hp => World.cell?_of_block (hg4.block p.block (by simp; omega) (by simp; omega))
  clear hR3 hbw3 hg4 hs4 hV3 hr3
  go_wp2_with (refine wpList_store_blk rfl 45 (.tmp 2) (.tmp 34) rfl w.heap.size zeroEc rfl rfl 45 _ hR4 rfl size_ev (fun u hu => one_ze hu) ?_)
  intro w5 hR5 hg5 hs5
  go_wp2
  exact bodyPost_ret (results_row_tmp (g := w.heap.size) (cs := zeroEc) rfl _ _ _ _ _ rfl hR5 Try.underlying45 rfl size_ev) rfl ⟨rfl, hbw4.grown hg5 hbw4.size (by rintro j ⟨⟩; omega)⟩
end Go.Proofs.Ythmecidpjlaonaa
