/-
  The reference's EncodeSigned returns what signed.Encode returns, and changes nothing. Condition: the signed vote lies in memory below the call (SgOk).
-/
import Derived.Test.YthmecidpjlaonaaGreatSg
namespace Go.Proofs.YthmecidpjlaonaaGreat
open Go.RowKit

set_option maxRecDepth 100000 in
set_option maxHeartbeats 1000000 in
theorem rsenc_no1 (s : Sg) (w : World) (hs : SgOk w w.heap.size s) (hn : ¬ ValidP s.vote) : Calls Tryz.prog 107 #[s.val] w (RowFalse w) := by
  have Hn := Lib.hid hn; clear hn
  have HS := Lib.hid hs; clear hs
  go_enter Tryz.func107, Tryz.ntmps107
  go_wp2_with (refine wpList_load_at rfl 31 _ rfl w.heap.size 0 rfl s.vote.cells _ (fun j u hj => by rw [Nat.zero_add, (Blk.new w _ _).cell]; exact s.cell_vote j u hj) Tryz.underlying31 rfl size_vote ?_)
  refine (renc_no s.vote _ HS.out.1 Hn.out).mono ?_
  rintro e w1 ⟨rfl, hb⟩
  go_wp2
  go_ret2
  exact ⟨rfl, (((Below.refl _ _).alloc (Nat.le_refl _) _).trans (hb.mono (by simp)))⟩

set_option maxRecDepth 100000 in
set_option maxHeartbeats 1000000 in
theorem rsenc_no2 (s : Sg) (w : World) (hs : SgOk w w.heap.size s) (hy : ValidP s.vote) (hn : s.sig.length ≠ 370) : Calls Tryz.prog 107 #[s.val] w (RowFalse w) := by
  have Hy := Lib.hid hy; clear hy
  have HS := Lib.hid hs; clear hs
  go_enter Tryz.func107, Tryz.ntmps107
  go_wp2_with (refine wpList_load_at rfl 31 _ rfl w.heap.size 0 rfl s.vote.cells _ (fun j u hj => by rw [Nat.zero_add, (Blk.new w _ _).cell]; exact s.cell_vote j u hj) Tryz.underlying31 rfl size_vote ?_)
  refine (renc_yes s.vote _ HS.out.1 Hy.out).mono ?_
  rintro e w1 ⟨A1, c1, rfl, hown1, hb⟩
  have hB1 : Blk w1 w.heap.size 34 s.cells := (Blk.new w _ _).below hb (by simp)
  have c22 : w1.cell? ⟨w.heap.size, 22, none⟩ = some (.slice s.A s.sig.length s.cap) := (hB1.cell 22).trans s.cell_sig
  have hne : ((s.sig.length : Int) != 370) = true := by rw [bne_iff_ne]; omega
  go_wp2
  go_ret2
  exact ⟨rfl, (((Below.refl _ _).alloc (Nat.le_refl _) _).trans (hb.mono (by simp)))⟩

set_option maxRecDepth 100000 in
set_option maxHeartbeats 1000000 in
theorem rsenc_yes (s : Sg) (w : World) (hs : SgOk w w.heap.size s) (hy : ValidP s.vote) (hn : s.sig.length = 370) : Calls Tryz.prog 107 #[s.val] w (RowTrue w 5 1 393 ((encB s.vote ++ s.sig).map B)) := by
  have Hy := Lib.hid hy; clear hy
  have HS := Lib.hid hs; clear hs
  have HN := Lib.hid hn; clear hn
  have hne : ((s.sig.length : Int) != 370) = false := by rw [bne_eq_false_iff_eq, HN.out]; rfl
  go_enter Tryz.func107, Tryz.ntmps107
  go_wp2_with (refine wpList_load_at rfl 31 _ rfl w.heap.size 0 rfl s.vote.cells _ (fun j u hj => by rw [Nat.zero_add, (Blk.new w _ _).cell]; exact s.cell_vote j u hj) Tryz.underlying31 rfl size_vote ?_)
  refine (renc_yes s.vote _ HS.out.1 Hy.out).mono ?_
  rintro e w1 ⟨A1, c1, rfl, hown1, hb⟩
  have hB1 : Blk w1 w.heap.size 34 s.cells := (Blk.new w _ _).below hb (by simp)
  have hb1 : Below w.heap.size w w1 := ((Below.refl _ _).alloc (Nat.le_refl _) _).trans (hb.mono (by simp))
  replace hown1 := own_base hown1 (show w.heap.size ≤ _ by simp)
  clear hb
  have c22 : w1.cell? ⟨w.heap.size, 22, none⟩ = some (.slice s.A s.sig.length s.cap) := (hB1.cell 22).trans s.cell_sig
  go_wp2_with (at_builtin; refine wpList_app rfl (.tmp 20) (.tmp 22) _ rfl w.heap.size 5 (.int .u8 0) 1 1 Tryz.underlying32 info_byte rfl (by decide) (.slice A1 23 c1) (23) ((encB s.vote).map B) rfl ?r0 (w.heap.size) (s.A) (s.sig.length) (s.cap) (s.sig.map B) rfl ?r1 ?r2 ?r3 ?r4 ?r5 ?r6 ?_)
  case r0 => exact hown1
  case r1 => simp
  case r2 => exact (HS.out.2.1.below hb1)
  case r3 => exact fun u hu => bytes_one hu
  case r4 => rw [HN.out]; omega
  case r5 => rw [HN.out]; unfold maxLen; omega
  case r6 => exact hb1.size
  intro v2 w2 hown2 hg2 hat2
  have hb2 : Below w.heap.size w w2 := below_own hb1 hown1 hg2
  clear hg2 hat2
  obtain ⟨A2, c2, rfl⟩ := own_form hown2
  go_wp2
  go_ret2
  have e : 23 + s.sig.length = 393 := by rw [HN.out]
  rw [e] at hown2
  refine ⟨A2, c2, by rw [← e]; rfl, ?_, hb2⟩
  rw [List.map_append]
  exact hown2

/-- Can the signed vote be encoded? -/
def EncOk (s : Sg) : Prop := ValidP s.vote ∧ s.sig.length = 370
theorem senc_no (s : Sg) (w : World) (hs : SgOk w w.heap.size s) (hn : ¬ EncOk s) : Calls Tryz.prog 140 #[s.val] w (RowFalse w) := by
  by_cases hy : ValidP s.vote
  · exact senc_no2 s w hs hy fun h => hn ⟨hy, h⟩
  · exact senc_no1 s w hs hy
theorem rsenc_no (s : Sg) (w : World) (hs : SgOk w w.heap.size s) (hn : ¬ EncOk s) : Calls Tryz.prog 107 #[s.val] w (RowFalse w) := by
  by_cases hy : ValidP s.vote
  · exact rsenc_no2 s w hs hy fun h => hn ⟨hy, h⟩
  · exact rsenc_no1 s w hs hy
def sencB (s : Sg) : List UInt8 := encB s.vote ++ s.sig

structure Ev where
  a : Sg
  b : Sg
namespace Ev
def cells (e : Ev) : Array Value := e.a.cells ++ e.b.cells
abbrev val (e : Ev) : Value := .agg e.cells
theorem size_cells (e : Ev) : e.cells.size = 46 := by simp [cells, Sg.size_cells]
theorem cell_a (e : Ev) (j : Nat) (u : Value) (h : e.a.cells[j]? = some u) : e.cells[j]? = some u := by
  have hj : j < e.a.cells.size := by
    rcases Nat.lt_or_ge j e.a.cells.size with h1 | h1
    · exact h1
    · rw [Array.getElem?_eq_none h1] at h; cases h
  unfold cells
  rw [Array.getElem?_append_left hj, h]
theorem cell_b (e : Ev) (j : Nat) (u : Value) (h : e.b.cells[j]? = some u) : e.cells[23 + j]? = some u := by
  unfold cells
  rw [Array.getElem?_append_right (by rw [Sg.size_cells]; omega), Sg.size_cells, Nat.add_sub_cancel_left, h]
theorem cell_signer (e : Ev) : e.cells[4]? = some (I e.a.vote.signer) := e.cell_a 4 _ (e.a.cell_vote 4 _ rfl)
end Ev
def EvOk (w : World) (B' : Nat) (e : Ev) : Prop := SgOk w B' e.a ∧ SgOk w B' e.b
theorem EvOk.below {w w' : World} {B' : Nat} {e : Ev} (h : EvOk w B' e) (hb : Below B' w w') : EvOk w' B' e := ⟨h.1.below hb, h.2.below hb⟩
theorem EvOk.more {w : World} {B' B'' : Nat} {e : Ev} (h : EvOk w B' e) (hb : B' ≤ B'') : EvOk w B'' e := ⟨h.1.more hb, h.2.more hb⟩
theorem size_signed : (Tryz.prog.info? 34).map (·.size) = some 23 := by kernel_rfl
theorem size_evidence : (Tryz.prog.info? 51).map (·.size) = some 46 := by kernel_rfl
def eencB (e : Ev) : List UInt8 := sencB e.a ++ sencB e.b
def EEncOk (e : Ev) : Prop := EncOk e.a ∧ EncOk e.b
end Go.Proofs.YthmecidpjlaonaaGreat
