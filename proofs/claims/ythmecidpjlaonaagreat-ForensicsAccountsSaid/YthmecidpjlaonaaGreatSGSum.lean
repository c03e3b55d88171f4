/-
  hash.Sum returns the name sumF of its bytes, and changes nothing. Condition: the bytes lie in memory below the call.
  The reference's Sum returns the name sumF of its bytes, and changes nothing. Condition: the bytes lie in memory below the call.
-/
import Derived.Test.YthmecidpjlaonaaGreatSGWord
import Derived.RegionCalls
import Derived.Deep.RegionWith
namespace Go.Proofs.YthmecidpjlaonaaGreat
open Go.RowKit

def wordU (l : List UInt8) : UInt64 := UInt64.ofNat (wordN l)
theorem wordN_lt (l : List UInt8) : wordN l < 18446744073709551616 := by
  have := numN_lt (pad8 l)
  rw [pad8_len] at this
  exact this
theorem wordU_toNat (l : List UInt8) : (wordU l).toNat = wordN l := by
  rw [wordU, UInt64.toNat_ofNat']
  exact Nat.mod_eq_of_lt (wordN_lt l)
/-- The state of the hash after k words. -/
def stK (l : List UInt8) : Nat → UInt64 × UInt64
  | 0 => (0x243f6a8885a308d3, 0x13198a2e03707344)
  | k + 1 => mixN 2 ((stK l k).1 ^^^ wordU (l.drop (8 * k)), (stK l k).2)
def fin (l : List UInt8) : UInt64 × UInt64 :=
  let s := stK l ((l.length + 7) / 8)
  mixN 4 (s.1, s.2 ^^^ UInt64.ofNat l.length)
/-- The hash of a list of bytes. -/
def sumF (l : List UInt8) : Nm := ofN ((fin l).1 ^^^ (fin l).2).toNat

theorem word_u (A : Option Addr) (n c : Nat) (l : List UInt8) (w : World) (hl : l.length = n) (hr : Rd w w.heap.size A (l.map B)) (hm : l.length ≤ 9223372036854775807) :
    Calls Tryz.prog 165 #[.slice A n c] w fun e w' => e = .returned (U (wordU l)) ∧ Below w.heap.size w w' := by
  subst hl
  exact (word_any A c l w hr hm).mono fun e w' h => ⟨by rw [h.1, ← wordU_toNat], h.2⟩
theorem mix2 (x y : UInt64) (b : Nat) (w : World) (hb : Blk w b 185 #[U x, U y]) :
    Calls Tryz.prog 166 #[.pointer (some ⟨b, 0, none⟩), .int .i64 2] w fun e w' => e = .returned (.tuple #[]) ∧
      Blk w' b 185 #[U (mixN 2 (x, y)).1, U (mixN 2 (x, y)).2] ∧ w.grownBy w' (some b) ∧ w'.heap.size = w.heap.size := mix_any 2 x y b w (by omega) hb
theorem mix4 (x y : UInt64) (b : Nat) (w : World) (hb : Blk w b 185 #[U x, U y]) :
    Calls Tryz.prog 166 #[.pointer (some ⟨b, 0, none⟩), .int .i64 4] w fun e w' => e = .returned (.tuple #[]) ∧
      Blk w' b 185 #[U (mixN 4 (x, y)).1, U (mixN 4 (x, y)).2] ∧ w.grownBy w' (some b) ∧ w'.heap.size = w.heap.size := mix_any 4 x y b w (by omega) hb
theorem xor_len (y : UInt64) (n : Nat) (h : n < 18446744073709551616) : bits .xor .u64 (y.toNat : Int) (n : Int) = ((y ^^^ UInt64.ofNat n).toNat : Int) := by
  have e : (n : Int) = ((UInt64.ofNat n).toNat : Int) := by rw [UInt64.toNat_ofNat', Nat.mod_eq_of_lt h]
  rw [e, u_xor]
theorem Rd.cut {w : World} {B' : Nat} {A : Option Addr} {xs : List Value} (h : Rd w B' A xs) (k cap : Nat) (hc : xs.length ≤ cap) : Rd w B' (if cap = k then A else A.map (·.add k)) (xs.drop k) := by
  by_cases hk : xs.length ≤ k
  · exact .inl (List.drop_eq_nil_of_le hk)
  · obtain ⟨b, o, rfl, hb, hcell⟩ := h.cells (by rintro rfl; simp at hk)
    rw [if_neg (by omega)]
    refine .inr ⟨b, o + k, by simp [Addr.add_mid], hb, fun j u hu => ?_⟩
    rw [List.getElem?_drop] at hu
    rw [Nat.add_assoc]
    exact hcell _ u hu

set_option maxRecDepth 100000 in
set_option maxHeartbeats 2000000 in
theorem sum_any (A : Option Addr) (c : Nat) (l : List UInt8) (w : World) (hr : Rd w w.heap.size A (l.map B)) (hm : l.length ≤ c) (_hc : c ≤ maxLen) (hlen : l.length ≤ 1000000000000) :
    Calls Tryz.prog 133 #[.slice A l.length c] w (NmPost w (sumF l)) := by
  have HR := Lib.hid hr; clear hr
  unfold maxLen at _hc
  go_enter Tryz.func133, Tryz.ntmps133
  go_wp2
  go_loopw [4] (fun i wr => ∃ k : Nat, 8 * k ≤ l.length + 7 ∧ i = .int .i64 ((8 * k : Nat) : Int) ∧ Blk wr (w.heap.size + 1) 185 #[U (stK l k).1, U (stK l k).2] ∧ (∃ z, Blk wr w.heap.size 29 z ∧ z.size = 8) ∧ Below w.heap.size w wr)
    (fun i _ => l.length + 8 - (intOf i).toNat)
  case atStart =>
    refine ⟨0, by omega, rfl, ?_, ⟨_, (Blk.new w _ _).alloc _, rfl⟩, ((Below.refl _ _).alloc (Nat.le_refl _) _).alloc (by simp) _⟩
    have := Blk.new (w.alloc (.cells #[.int .u8 0, .int .u8 0, .int .u8 0, .int .u8 0, .int .u8 0, .int .u8 0, .int .u8 0, .int .u8 0] 29)) 185 #[.int .u64 2611923443488327891, .int .u64 1376283091369227076]
    have e : (#[U (stK l 0).1, U (stK l 0).2] : Array Value) = #[.int .u64 2611923443488327891, .int .u64 1376283091369227076] := rfl
    rw [e]
    simpa using this
  case round =>
    obtain ⟨k, hk, rfl, hB, ⟨z, hZ, hz⟩, hbw⟩ := hrel
    have Hz := Lib.hid hz; clear hz
    by_cases hlt : 8 * k < l.length
    · have Hst : Hid (stK l (k + 1) = mixN 2 ((stK l k).1 ^^^ wordU (l.drop (8 * k)), (stK l k).2)) := rfl
      generalize hs : stK l k = s at *
      obtain ⟨x, y⟩ := s
      have Hs := Lib.hid hs; clear hs
      obtain ⟨b, o, rfl, hbo, hcell⟩ := HR.out.cells (by rintro h; simp at h; subst h; simp at hlt)
      have hrd : Rd wr wr.heap.size (some ⟨b, o + 8 * k, none⟩) ((l.drop (8 * k)).map B) := by
        have h1 := ((HR.out.below hbw).more hbw.size).cut (8 * k) c (by simpa using hm)
        rw [if_neg (by omega)] at h1
        simpa [Addr.add_mid, List.map_drop] using h1
      have Hrd := Lib.hid hrd; clear hrd
      have Hcell := Lib.hid hcell; clear hcell
      have hcne : ¬ c = 8 * k := by omega
      have c0 : wr.cell? ⟨w.heap.size + 1, 0, none⟩ = some (U x) := hB.cell 0
      have f0 := hB.frozen 0
      go_wp2
      have i1 : (0 : Int) ≤ 8 * (k : Int) := by omega
      have i2 : 8 * (k : Int) ≤ (l.length : Int) := by omega
      have i3 : (8 * (k : Int)).toNat = 8 * k := by omega
      have HW : Hid (Calls Tryz.prog 165 #[.slice (some ⟨b, o + 8 * k, none⟩) (l.length - 8 * k) (c - 8 * k)] wr.drew fun e w' => e = .returned (U (wordU (l.drop (8 * k)))) ∧ Below wr.heap.size wr w' ∧ w'.cell? ⟨w.heap.size + 1, 0, none⟩ = some (U x) ∧ w'.frozen? ⟨w.heap.size + 1, 0, none⟩ = false) := by
        refine (word_u _ _ _ (l.drop (8 * k)) _ (by simp) Hrd.out.drew (by simp; omega)).mono ?_
        rintro e w' ⟨rfl, hb'⟩
        exact ⟨rfl, (Below.refl _ _).drew.trans hb', (hb'.cell (p := ⟨w.heap.size + 1, 0, none⟩) hB.lt).trans c0, (hb'.frozen (p := ⟨w.heap.size + 1, 0, none⟩) hB.lt).trans f0⟩
      go_region_with ((go_at_call 165; refine HW.out.mono ?_; rintro e w' ⟨rfl, hb', c0', f0'⟩))
      all_goals
        simp only [u_xor]
        generalize hx2 : x ^^^ wordU (l.drop (8 * k)) = x2 at *
        have Hx2 := Lib.hid hx2; clear hx2
        have hB' := (hB.below hb' hB.lt).put 0 (U x2)
        have hZ' := (hZ.below hb' hZ.lt).far (p := ⟨w.heap.size + 1, 0, none⟩) (by simp) (U x2)
        have hbw' := (hbw.trans (hb'.mono hbw.size)).setCell (p := ⟨w.heap.size + 1, 0, none⟩) (by simp) (U x2)
        generalize w'.setCell ⟨w.heap.size + 1, 0, none⟩ (U x2) = w3 at *
        clear hB hZ hbw hb' c0 c0' f0 f0' HW Hrd
        go_wp2_with fail
        refine (mix2 x2 y _ _ hB').mono ?_
        rintro e w4 ⟨rfl, hB4, hg4, hs4⟩
        have hZ4 := hZ'.kept hg4 (by simp)
        have hbw4 : Below w.heap.size w w4 := hbw'.grown hg4 hbw'.size (by rintro j ⟨⟩; omega)
        clear hZ' hbw' hB' hg4
        go_wp2_with fail
        go_roundw
        case rel =>
          refine ⟨k + 1, by omega, by go_num, ?_, ⟨z, hZ4, Hz.out⟩, hbw4⟩
          rw [Hst.out]
          exact hB4
        case measure => simp [intOf]; omega
    · obtain rfl : k = (l.length + 7) / 8 := by omega
      have hfin : fin l = mixN 4 ((stK l ((l.length + 7) / 8)).1, (stK l ((l.length + 7) / 8)).2 ^^^ UInt64.ofNat l.length) := rfl
      have Hfin := Lib.hid hfin; clear hfin
      generalize hs : stK l ((l.length + 7) / 8) = s at *
      obtain ⟨x, y⟩ := s
      have Hs := Lib.hid hs; clear hs
      have c1 : wr.cell? ⟨w.heap.size + 1, 1, none⟩ = some (U y) := hB.cell 1
      have f1 := hB.frozen 1
      have hl0 : (0 : Int) ≤ (l.length : Int) := by omega
      go_wp2_with fail
      simp only [xor_len y l.length (by omega)]
      generalize hy2 : y ^^^ UInt64.ofNat l.length = y2 at *
      have Hy2 := Lib.hid hy2; clear hy2
      have hB' := hB.put 1 (U y2)
      have hZ' := hZ.far (p := ⟨w.heap.size + 1, 1, none⟩) (by simp) (U y2)
      have hbw' := hbw.setCell (p := ⟨w.heap.size + 1, 1, none⟩) (by simp) (U y2)
      generalize wr.setCell ⟨w.heap.size + 1, 1, none⟩ (U y2) = w3 at *
      clear hB hZ hbw c1 f1
      refine (mix4 x y2 _ _ hB').mono ?_
      rintro e w4 ⟨rfl, hB4, hg4, hs4⟩
      have hZ4 := hZ'.kept hg4 (by simp)
      have hbw4 : Below w.heap.size w w4 := hbw'.grown hg4 hbw'.size (by rintro j ⟨⟩; omega)
      clear hZ' hbw' hB' hg4
      generalize hf : mixN 4 (x, y2) = f at *
      obtain ⟨fx, fy⟩ := f
      have Hf := Lib.hid hf; clear hf
      have c0 : w4.cell? ⟨w.heap.size + 1, 0, none⟩ = some (U fx) := hB4.cell 0
      have c1 : w4.cell? ⟨w.heap.size + 1, 1, none⟩ = some (U fy) := hB4.cell 1
      go_wp2_with fail
      simp only [u_xor]
      generalize hq : fx ^^^ fy = q at *
      have Hq := Lib.hid hq; clear hq
      refine (of_any q.toNat _).mono ?_
      generalize hr : ofN q.toNat = r
      have Hr := Lib.hid hr; clear hr
      rintro e w5 ⟨rfl, hb5⟩
      have hZ5 := hZ4.below hb5 hZ4.lt
      have hbw5 := hbw4.trans (hb5.mono hbw4.size)
      clear hZ4 hbw4 hb5 hB4 c0 c1
      go_wp2_with (refine wpList_store_blk rfl 29 (.tmp 2) (.tmp 34) rfl w.heap.size _ rfl rfl 29 z hZ5 ?s1 size_name ?s2 ?_)
      case s1 => rw [Hz.out]; rfl
      case s2 => exact ⟨rfl, rfl, rfl, rfl, rfl, rfl, rfl, rfl⟩
      intro w6 hZ6 hg6 hs6
      have hbw6 : Below w.heap.size w w6 := hbw5.grown hg6 hbw5.size (by rintro j ⟨⟩; omega)
      go_wp2
      refine bodyPost_ret (results_cell_row (g := w.heap.size) rfl _ _ _ _ _ _ rfl hZ6 Tryz.underlying29 rfl size_name) rfl ⟨?_, hbw6⟩
      have e : sumF l = r := by rw [sumF, Hfin.out, ← Hr.out, ← Hq.out]
      rw [e]
end Go.Proofs.YthmecidpjlaonaaGreat
namespace Go.Proofs.YthmecidpjlaonaaGreat
open Go.RowKit

end Go.Proofs.YthmecidpjlaonaaGreat
