/-
  signed.Encode returns the 393 bytes of a valid signed vote and true, else nil and false, and changes nothing. Condition: the signed vote lies in memory below the call (SgOk).
-/
import Derived.Test.YthmecidpjlaonaaGreatSEnc
import Derived.Test.YthmecidpjlaonaaGreatSVote
import Derived.BigQuiet
import Derived.Deep.QuietTactic
namespace Go.Proofs.YthmecidpjlaonaaGreat
open Go.RowKit

/-- A whole struct or array read out of memory. -/
theorem wpList_load_at {P : Program} {ops : Array Oper} {rest : List Oper} {o : Oper} {a : Act} {w : World} {Q : Exit → Act → World → Prop} (hgd : o.guard = none) (ty : TypeId) (x : Operand) (ho : o.op = .load ty x)
    (g off : Nat) (hx : a.eval x = .pointer (some ⟨g, off, none⟩)) (cs : Array Value) (d : TypeDesc) (hc : ∀ j u, cs[j]? = some u → w.cell? ⟨g, off + j, none⟩ = some u)
    (hu : P.underlying ty = some d) (hd : d.isRow = true) (hi : (P.info? ty).map (·.size) = some cs.size)
    (h : wpList P ops Q rest (a.put o.dst (.agg cs)) w) : wpList P ops Q (o :: rest) a w := by
  have e : cs.toList.toArray = cs := by simp
  refine wpList_load_mid hgd ty x ho g off hx cs.toList d ?_ hu hd (by simpa using hi) (by rw [e]; exact h)
  intro j u hj
  exact hc j u (by simpa using hj)

structure Sg where
  vote : Vt
  sig : List UInt8
  A : Option Addr
  cap : Nat
namespace Sg
def cells (s : Sg) : Array Value := s.vote.cells.push (.slice s.A s.sig.length s.cap)
abbrev val (s : Sg) : Value := .agg s.cells
theorem size_cells (s : Sg) : s.cells.size = 23 := by simp [cells]
theorem cell_vote (s : Sg) (j : Nat) (u : Value) (h : s.vote.cells[j]? = some u) : s.cells[j]? = some u := by
  have hj : j < s.vote.cells.size := by
    rcases Nat.lt_or_ge j s.vote.cells.size with h1 | h1
    · exact h1
    · rw [Array.getElem?_eq_none h1] at h; cases h
  unfold cells
  rw [Array.getElem?_push_lt hj, ← h, Array.getElem?_eq_getElem hj]
theorem cell_sig (s : Sg) : s.cells[22]? = some (.slice s.A s.sig.length s.cap) := by
  unfold cells
  rw [show 22 = s.vote.cells.size from rfl, Array.getElem?_push_size]
end Sg
/-- The signed vote's numbers are int64's, and its signature is read below block B. -/
def SgOk (w : World) (B' : Nat) (s : Sg) : Prop := s.vote.ok ∧ Rd w B' s.A (s.sig.map B) ∧ s.sig.length ≤ 140737488351232
theorem SgOk.below {w w' : World} {B' : Nat} {s : Sg} (h : SgOk w B' s) (hb : Below B' w w') : SgOk w' B' s := ⟨h.1, h.2.1.below hb, h.2.2⟩
theorem SgOk.more {w : World} {B' B'' : Nat} {s : Sg} (h : SgOk w B' s) (hb : B' ≤ B'') : SgOk w B'' s := ⟨h.1, h.2.1.more hb, h.2.2⟩

theorem size2_any (w : World) : Calls Tryz.prog 92 #[.int .i64 2] w fun e w' => e = .returned (.int .i64 370) ∧ w' = w := by
  go_enter Tryz.func92, Tryz.ntmps92
  go_wp2
  go_ret
  exact ⟨rfl, rfl⟩

set_option maxRecDepth 100000 in
set_option maxHeartbeats 1000000 in
theorem senc_no1 (s : Sg) (w : World) (hs : SgOk w w.heap.size s) (hn : ¬ ValidP s.vote) : Calls Tryz.prog 140 #[s.val] w (RowFalse w) := by
  have Hn := Lib.hid hn; clear hn
  have HS := Lib.hid hs; clear hs
  go_enter Tryz.func140, Tryz.ntmps140
  go_wp2_with (refine wpList_load_at rfl 31 _ rfl w.heap.size 0 rfl s.vote.cells _ (fun j u hj => by rw [Nat.zero_add, (Blk.new w _ _).cell]; exact s.cell_vote j u hj) Tryz.underlying31 rfl size_vote ?_)
  refine (venc_no s.vote _ HS.out.1 Hn.out).mono ?_
  rintro e w1 ⟨rfl, hb⟩
  go_wp2
  go_quiet (fail)
  go_wp2
  go_ret2
  exact ⟨rfl, below_drewN (((Below.refl _ _).alloc (Nat.le_refl _) _).trans (hb.mono (by simp))) _⟩

set_option maxRecDepth 100000 in
set_option maxHeartbeats 1000000 in
theorem senc_no2 (s : Sg) (w : World) (hs : SgOk w w.heap.size s) (hy : ValidP s.vote) (hn : s.sig.length ≠ 370) : Calls Tryz.prog 140 #[s.val] w (RowFalse w) := by
  have Hy := Lib.hid hy; clear hy
  have HS := Lib.hid hs; clear hs
  go_enter Tryz.func140, Tryz.ntmps140
  go_wp2_with (refine wpList_load_at rfl 31 _ rfl w.heap.size 0 rfl s.vote.cells _ (fun j u hj => by rw [Nat.zero_add, (Blk.new w _ _).cell]; exact s.cell_vote j u hj) Tryz.underlying31 rfl size_vote ?_)
  refine (venc_yes s.vote _ HS.out.1 Hy.out).mono ?_
  rintro e w1 ⟨A1, c1, rfl, hown1, hb⟩
  have hB1 : Blk w1 w.heap.size 34 s.cells := (Blk.new w _ _).below hb (by simp)
  have c22 : w1.cell? ⟨w.heap.size, 22, none⟩ = some (.slice s.A s.sig.length s.cap) := (hB1.cell 22).trans s.cell_sig
  have hne : ((s.sig.length : Int) != 370) = true := by rw [bne_iff_ne]; omega
  go_wp2
  go_quiet ((go_at_call 92; exact Calls.quiet_of_same (size2_any _)))
  go_wp2
  go_ret2
  exact ⟨rfl, below_drewN (((Below.refl _ _).alloc (Nat.le_refl _) _).trans (hb.mono (by simp))) _⟩

set_option maxRecDepth 100000 in
set_option maxHeartbeats 1000000 in
theorem senc_yes (s : Sg) (w : World) (hs : SgOk w w.heap.size s) (hy : ValidP s.vote) (hn : s.sig.length = 370) : Calls Tryz.prog 140 #[s.val] w (RowTrue w 5 1 393 ((encB s.vote ++ s.sig).map B)) := by
  have Hy := Lib.hid hy; clear hy
  have HS := Lib.hid hs; clear hs
  have HN := Lib.hid hn; clear hn
  have hne : ((s.sig.length : Int) != 370) = false := by rw [bne_eq_false_iff_eq, HN.out]; rfl
  go_enter Tryz.func140, Tryz.ntmps140
  go_wp2_with (refine wpList_load_at rfl 31 _ rfl w.heap.size 0 rfl s.vote.cells _ (fun j u hj => by rw [Nat.zero_add, (Blk.new w _ _).cell]; exact s.cell_vote j u hj) Tryz.underlying31 rfl size_vote ?_)
  refine (venc_yes s.vote _ HS.out.1 Hy.out).mono ?_
  rintro e w1 ⟨A1, c1, rfl, hown1, hb⟩
  have hB1 : Blk w1 w.heap.size 34 s.cells := (Blk.new w _ _).below hb (by simp)
  have hb1 : Below w.heap.size w w1 := ((Below.refl _ _).alloc (Nat.le_refl _) _).trans (hb.mono (by simp))
  replace hown1 := own_base hown1 (show w.heap.size ≤ _ by simp)
  clear hb
  have c22 : w1.cell? ⟨w.heap.size, 22, none⟩ = some (.slice s.A s.sig.length s.cap) := (hB1.cell 22).trans s.cell_sig
  go_wp2
  go_quiet ((go_at_call 92; exact Calls.quiet_of_same (size2_any _)))
  go_wp2_with (at_builtin; refine wpList_app rfl (.tmp 21) (.tmp 23) _ rfl w.heap.size 5 (.int .u8 0) 1 1 Tryz.underlying32 info_byte rfl (by decide) (.slice A1 23 c1) 23 ((encB s.vote).map B) rfl ?r0 w.heap.size s.A s.sig.length s.cap (s.sig.map B) rfl ?r1 ?r2 ?r3 ?r4 ?r5 ?r6 ?_)
  case r0 => exact hown1
  case r1 => simp
  case r2 => exact (HS.out.2.1.below (below_drewN hb1 _))
  case r3 => exact fun u hu => bytes_one hu
  case r4 => rw [HN.out]; omega
  case r5 => rw [HN.out]; unfold maxLen; omega
  case r6 => exact hb1.size
  intro v2 w2 hown2 hg2 hat2
  have hb2 : Below w.heap.size w w2 := below_own (below_drewN hb1 _) hown1 hg2
  clear hg2 hat2
  obtain ⟨A2, c2, rfl⟩ := own_form hown2
  go_wp2
  go_ret2
  have e : 23 + s.sig.length = 393 := by rw [HN.out]
  rw [e] at hown2
  refine ⟨A2, c2, by rw [← e]; rfl, ?_, hb2⟩
  rw [List.map_append]
  exact hown2
end Go.Proofs.YthmecidpjlaonaaGreat
