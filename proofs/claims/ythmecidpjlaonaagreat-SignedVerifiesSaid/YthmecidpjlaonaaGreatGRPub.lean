/-
  The reference's Public returns a key's public name (keyF). No condition.
-/
import Derived.Test.YthmecidpjlaonaaGreatGRSgn
namespace Go.Proofs.YthmecidpjlaonaaGreat
open Go.RowKit
attribute [local go_sem ↓] Go.wp_at_zero Go.wp_at_succ loadNm
attribute [local go_sem] runNm pickRow_some rowAt_drew rowAt_drewN

set_option maxRecDepth 100000 in
set_option maxHeartbeats 2000000 in
theorem rpublic_any (s : Nm) (w : World) : Calls Tryz.prog 19 #[s.val, .int .i64 2] w (NmPost w (keyF s)) := by
  obtain ⟨W, hW⟩ : ∃ W, W = (w.alloc (Obj.cells s.cells 29)).alloc (Obj.cells zero8 29) := ⟨_, rfl⟩
  have hbW : Below w.heap.size w W := by rw [hW]; exact ((Below.refl _ _).alloc (Nat.le_refl _) _).alloc (by simp) _
  have x0 : rowAt W w.heap.size 0 8 = some s.cells := by rw [hW]; exact ((Blk.new w 29 s.cells).alloc _).row 8 rfl
  have hR : Blk W (w.heap.size + 1) 29 zero8 := by
    rw [hW]
    have := Blk.new (w.alloc (Obj.cells s.cells 29)) 29 zero8
    simpa using this
  have HL := Lib.hid (fun V => rleaves_any s 2 0 V (by omega) (by omega))
  have HRt : Hid (∀ V A c, V.ownsRow V.heap.size 29 8 (.slice A 32 c) 32 ((treeF s 2 0).flatMap nmc) ∨ True → Rd V V.heap.size A ((treeF s 2 0).flatMap nmc) → 32 ≤ c → c ≤ maxLen → Calls Tryz.prog 54 #[.slice A 32 c] V (NmPost V (keyF s))) := fun V A c _ h1 h2 h3 => rroot_any 5 _ A 32 c V (treeF_len _ _ _) rfl (by omega) h2 h3 h1
  obtain ⟨r, hr⟩ : ∃ r, r = keyF s := ⟨_, rfl⟩
  rw [← hr] at HRt ⊢
  obtain ⟨q, hq⟩ : ∃ q, q = w.heap.size + 1 := ⟨_, rfl⟩
  rw [← hq] at hR
  have hwq : w.heap.size ≤ q := by omega
  clear hr
  go_enter Tryz.func19, Tryz.ntmps19
  go_upto_region 1 with fail
  rw [← hW, ← hq]
  clear hW hq
  go_wp2_with (first
    | (go_at_call 55; refine (HL.out _).mono ?_; rintro en w2 ⟨A2, c2, rfl, hown2, hb2⟩; have hR2 := hR.below hb2 hR.lt; have hbw2 := hbW.trans (hb2.mono hbW.size); have hcc := own_cap hown2 (by omega))
    | (go_at_call 54; refine (HRt.out _ _ _ (.inr trivial) (Rd.of_own hown2) (by obtain ⟨A', c', e, h1, h2⟩ := hcc; injection e with _ _ e; omega) (by obtain ⟨A', c', e, h1, h2⟩ := hcc; injection e with _ _ e; omega)).mono ?_; rintro en w3 ⟨rfl, hb3⟩; have hR3 := hR2.below hb3 hR2.lt; have hbw3 := hbw2.trans (hb3.mono hbw2.size))
    | (refine wpList_store_blk rfl 29 (.tmp 4) (.tmp 15) rfl q _ rfl rfl 29 _ hR3 rfl size_name (fun u hu => one_nm r hu) ?_))
  intro w5 hR5 hg5 hs5
  have hbw5 : Below w.heap.size w w5 := hbw3.grown hg5 hbw3.size (fun j hj => by injection hj with hj; subst hj; exact hwq)
  go_wp2
  exact bodyPost_ret (results_cell_row (g := q) rfl _ _ _ _ _ _ rfl hR5 Tryz.underlying29 rfl size_name) rfl ⟨rfl, hbw5⟩

end Go.Proofs.YthmecidpjlaonaaGreat
