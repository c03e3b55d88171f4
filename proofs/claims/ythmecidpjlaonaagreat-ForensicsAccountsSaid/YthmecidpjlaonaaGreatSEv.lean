/-
  evidence.Encode and the reference's EncodeEvidence return the 786 bytes of a pair that can be encoded and true, else nil and false, and change nothing. Condition: the pair lies in memory below the call (EvOk).
-/
import Derived.Test.YthmecidpjlaonaaGreatSSgR
namespace Go.Proofs.YthmecidpjlaonaaGreat
open Go.RowKit

set_option maxRecDepth 100000 in
set_option maxHeartbeats 1000000 in
theorem eenc_00 (e : Ev) (w : World) (hs : EvOk w w.heap.size e) (ha : ¬ EncOk e.a) (hb : ¬ EncOk e.b) : Calls Tryz.prog 106 #[e.val] w (RowFalse w) := by
  have Ha := Lib.hid ha; clear ha
  have Hb := Lib.hid hb; clear hb
  have HS := Lib.hid hs; clear hs
  go_enter Tryz.func106, Tryz.ntmps106
  go_wp2_with (refine wpList_load_at rfl 34 (.tmp 9) rfl w.heap.size 0 rfl e.a.cells _ (fun j u hj => by rw [Nat.zero_add, (Blk.new w _ _).cell]; exact e.cell_a j u hj) Tryz.underlying34 rfl (by rw [Sg.size_cells]; exact size_signed) ?_)
  refine (senc_no e.a _ (((HS.out.1).below ((Below.refl _ _).alloc (Nat.le_refl _) _)).more (by simp)) Ha.out).mono ?_
  rintro en w1 ⟨rfl, hb⟩
  have hB1 : Blk w1 w.heap.size 51 e.cells := (Blk.new w _ _).below hb (by simp)
  have hb1 : Below w.heap.size w w1 := ((Below.refl _ _).alloc (Nat.le_refl _) _).trans (hb.mono (by simp))
  skip
  clear hb
  go_wp2_with (refine wpList_load_at rfl 34 (.tmp 15) rfl w.heap.size 23 rfl e.b.cells _ (fun j u hj => by rw [hB1.cell]; exact e.cell_b j u hj) Tryz.underlying34 rfl (by rw [Sg.size_cells]; exact size_signed) ?_)
  refine (senc_no e.b _ (((HS.out.2).below hb1).more hb1.size) Hb.out).mono ?_
  rintro en w2 ⟨rfl, hb⟩
  have hb2 : Below w.heap.size w w2 := hb1.trans (hb.mono hb1.size)
  go_wp2
  go_ret2
  exact ⟨rfl, hb2⟩

set_option maxRecDepth 100000 in
set_option maxHeartbeats 1000000 in
theorem eenc_01 (e : Ev) (w : World) (hs : EvOk w w.heap.size e) (ha : ¬ EncOk e.a) (hb : EncOk e.b) : Calls Tryz.prog 106 #[e.val] w (RowFalse w) := by
  have Ha := Lib.hid ha; clear ha
  have Hb := Lib.hid hb; clear hb
  have HS := Lib.hid hs; clear hs
  go_enter Tryz.func106, Tryz.ntmps106
  go_wp2_with (refine wpList_load_at rfl 34 (.tmp 9) rfl w.heap.size 0 rfl e.a.cells _ (fun j u hj => by rw [Nat.zero_add, (Blk.new w _ _).cell]; exact e.cell_a j u hj) Tryz.underlying34 rfl (by rw [Sg.size_cells]; exact size_signed) ?_)
  refine (senc_no e.a _ (((HS.out.1).below ((Below.refl _ _).alloc (Nat.le_refl _) _)).more (by simp)) Ha.out).mono ?_
  rintro en w1 ⟨rfl, hb⟩
  have hB1 : Blk w1 w.heap.size 51 e.cells := (Blk.new w _ _).below hb (by simp)
  have hb1 : Below w.heap.size w w1 := ((Below.refl _ _).alloc (Nat.le_refl _) _).trans (hb.mono (by simp))
  skip
  clear hb
  go_wp2_with (refine wpList_load_at rfl 34 (.tmp 15) rfl w.heap.size 23 rfl e.b.cells _ (fun j u hj => by rw [hB1.cell]; exact e.cell_b j u hj) Tryz.underlying34 rfl (by rw [Sg.size_cells]; exact size_signed) ?_)
  refine (senc_yes e.b _ (((HS.out.2).below hb1).more hb1.size) Hb.out.1 Hb.out.2).mono ?_
  rintro en w2 ⟨A2, c2, rfl, hown2, hb⟩
  have hb2 : Below w.heap.size w w2 := hb1.trans (hb.mono hb1.size)
  go_wp2
  go_ret2
  exact ⟨rfl, hb2⟩

set_option maxRecDepth 100000 in
set_option maxHeartbeats 1000000 in
theorem eenc_10 (e : Ev) (w : World) (hs : EvOk w w.heap.size e) (ha : EncOk e.a) (hb : ¬ EncOk e.b) : Calls Tryz.prog 106 #[e.val] w (RowFalse w) := by
  have Ha := Lib.hid ha; clear ha
  have Hb := Lib.hid hb; clear hb
  have HS := Lib.hid hs; clear hs
  go_enter Tryz.func106, Tryz.ntmps106
  go_wp2_with (refine wpList_load_at rfl 34 (.tmp 9) rfl w.heap.size 0 rfl e.a.cells _ (fun j u hj => by rw [Nat.zero_add, (Blk.new w _ _).cell]; exact e.cell_a j u hj) Tryz.underlying34 rfl (by rw [Sg.size_cells]; exact size_signed) ?_)
  refine (senc_yes e.a _ (((HS.out.1).below ((Below.refl _ _).alloc (Nat.le_refl _) _)).more (by simp)) Ha.out.1 Ha.out.2).mono ?_
  rintro en w1 ⟨A1, c1, rfl, hown1, hb⟩
  have hB1 : Blk w1 w.heap.size 51 e.cells := (Blk.new w _ _).below hb (by simp)
  have hb1 : Below w.heap.size w w1 := ((Below.refl _ _).alloc (Nat.le_refl _) _).trans (hb.mono (by simp))
  replace hown1 := own_base hown1 (show w.heap.size ≤ _ by simp)
  clear hb
  go_wp2_with (refine wpList_load_at rfl 34 (.tmp 15) rfl w.heap.size 23 rfl e.b.cells _ (fun j u hj => by rw [hB1.cell]; exact e.cell_b j u hj) Tryz.underlying34 rfl (by rw [Sg.size_cells]; exact size_signed) ?_)
  refine (senc_no e.b _ (((HS.out.2).below hb1).more hb1.size) Hb.out).mono ?_
  rintro en w2 ⟨rfl, hb⟩
  have hb2 : Below w.heap.size w w2 := hb1.trans (hb.mono hb1.size)
  go_wp2
  go_ret2
  exact ⟨rfl, hb2⟩

set_option maxRecDepth 100000 in
set_option maxHeartbeats 1000000 in
theorem eenc_11 (e : Ev) (w : World) (hs : EvOk w w.heap.size e) (ha : EncOk e.a) (hb : EncOk e.b) : Calls Tryz.prog 106 #[e.val] w (RowTrue w 5 1 786 ((eencB e).map B)) := by
  have Ha := Lib.hid ha; clear ha
  have Hb := Lib.hid hb; clear hb
  have HS := Lib.hid hs; clear hs
  go_enter Tryz.func106, Tryz.ntmps106
  go_wp2_with (refine wpList_load_at rfl 34 (.tmp 9) rfl w.heap.size 0 rfl e.a.cells _ (fun j u hj => by rw [Nat.zero_add, (Blk.new w _ _).cell]; exact e.cell_a j u hj) Tryz.underlying34 rfl (by rw [Sg.size_cells]; exact size_signed) ?_)
  refine (senc_yes e.a _ (((HS.out.1).below ((Below.refl _ _).alloc (Nat.le_refl _) _)).more (by simp)) Ha.out.1 Ha.out.2).mono ?_
  rintro en w1 ⟨A1, c1, rfl, hown1, hb⟩
  have hB1 : Blk w1 w.heap.size 51 e.cells := (Blk.new w _ _).below hb (by simp)
  have hb1 : Below w.heap.size w w1 := ((Below.refl _ _).alloc (Nat.le_refl _) _).trans (hb.mono (by simp))
  replace hown1 := own_base hown1 (show w.heap.size ≤ _ by simp)
  clear hb
  go_wp2_with (refine wpList_load_at rfl 34 (.tmp 15) rfl w.heap.size 23 rfl e.b.cells _ (fun j u hj => by rw [hB1.cell]; exact e.cell_b j u hj) Tryz.underlying34 rfl (by rw [Sg.size_cells]; exact size_signed) ?_)
  refine (senc_yes e.b _ (((HS.out.2).below hb1).more hb1.size) Hb.out.1 Hb.out.2).mono ?_
  rintro en w2 ⟨A2, c2, rfl, hown2, hb⟩
  have hb2 : Below w.heap.size w w2 := hb1.trans (hb.mono hb1.size)
  replace hown1 := own_below hown1 hb (Nat.le_refl _)
  replace hown2 := own_base hown2 hb1.size
  clear hb hb1 hB1
  go_wp2_with (at_builtin; refine wpList_app rfl (.tmp 26) (.tmp 27) _ rfl w.heap.size 5 (.int .u8 0) 1 1 Tryz.underlying32 info_byte rfl (by decide) (.slice A1 393 c1) (393) ((encB e.a.vote ++ e.a.sig).map B) rfl ?r0 (w2.heap.size) (A2) (393) (c2) ((encB e.b.vote ++ e.b.sig).map B) rfl ?r1 ?r2 ?r3 ?r4 ?r5 ?r6 ?_)
  case r0 => exact hown1
  case r1 => have := hown2.1; simpa using this
  case r2 => exact Rd.of_own hown2
  case r3 => exact fun u hu => bytes_one hu
  case r4 => omega
  case r5 => unfold maxLen; omega
  case r6 => exact hb2.size
  intro v3 w3 hown3 hg3 hat3
  have hb3 : Below w.heap.size w w3 := below_own hb2 hown1 hg3
  clear hg3 hat3
  obtain ⟨A3, c3, rfl⟩ := own_form hown3
  go_wp2
  go_ret2
  refine ⟨A3, c3, rfl, ?_, hb3⟩
  have h : (eencB e).map B = (encB e.a.vote ++ e.a.sig).map B ++ (encB e.b.vote ++ e.b.sig).map B := by rw [eencB, sencB, sencB, ← List.map_append]
  rw [h]
  exact hown3

theorem eenc_yes (e : Ev) (w : World) (hs : EvOk w w.heap.size e) (h : EEncOk e) : Calls Tryz.prog 106 #[e.val] w (RowTrue w 5 1 786 ((eencB e).map B)) := eenc_11 e w hs h.1 h.2
theorem eenc_no (e : Ev) (w : World) (hs : EvOk w w.heap.size e) (h : ¬ EEncOk e) : Calls Tryz.prog 106 #[e.val] w (RowFalse w) := by
  by_cases ha : EncOk e.a
  · by_cases hb : EncOk e.b
    · exact absurd ⟨ha, hb⟩ h
    · exact eenc_10 e w hs ha hb
  · by_cases hb : EncOk e.b
    · exact eenc_01 e w hs ha hb
    · exact eenc_00 e w hs ha hb

end Go.Proofs.YthmecidpjlaonaaGreat
