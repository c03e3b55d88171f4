/-
  onetime.Digits and the reference's Digits return the 18 digits of a name in a new row. No condition.
  onetime.walk continues a chain (walkF), and changes nothing that was there. Condition: the positions and the chain's number are small.
  The reference's Digits returns the 18 digits of a name in a new row. No condition.
  onetime.public returns the public name of the ends of the chains (pubF), and changes nothing that was there. Condition: the list lies in memory below the call.
  The reference's ends returns the public name of the ends of the chains (pubF), and its chain continues a chain (walkF); both change nothing that was there. Condition: the list lies in memory below the call; the chain's numbers are small.
-/
import Derived.Test.YthmecidpjlaonaaGreatSGOne
import Derived.ArgAppend
namespace Go.Proofs.YthmecidpjlaonaaGreat
open Go.RowKit

theorem info_int : (Tryz.prog.info? 3).map (fun i => (i.zero, i.size, i.bytes)) = some (some (.int .i64 0), 1, 8) := by kernel_rfl
theorem ixn (n : Nm) (k : Nat) (hk : k < n.bytes.length) (w : World) : (Instr.index 29 n.val (.int .i64 (k : Int))).run Tryz.prog w = .ok (B n.bytes[k]) w := by
  have h8 : k < 8 := hk
  rcases (by omega : k = 0 ∨ k = 1 ∨ k = 2 ∨ k = 3 ∨ k = 4 ∨ k = 5 ∨ k = 6 ∨ k = 7) with rfl | rfl | rfl | rfl | rfl | rfl | rfl | rfl
  · exact ix0 _ _ _ _ _ _ _ _ w
  · exact ix1 _ _ _ _ _ _ _ _ w
  · exact ix2 _ _ _ _ _ _ _ _ w
  · exact ix3 _ _ _ _ _ _ _ _ w
  · exact ix4 _ _ _ _ _ _ _ _ w
  · exact ix5 _ _ _ _ _ _ _ _ w
  · exact ix6 _ _ _ _ _ _ _ _ w
  · exact ix7 _ _ _ _ _ _ _ _ w
theorem u8_and15 (b : UInt8) : bits .and .u8 (b.toNat : Int) 15 = ((b.toNat % 16 : Nat) : Int) := by
  have hb := b.toNat_lt
  show IntKind.u8.wrap ((BitVec.ofInt 8 (b.toNat : Int) &&& BitVec.ofInt 8 15).toNat : Int) = _
  rw [BitVec.toNat_and, BitVec.ofInt_natCast, BitVec.toNat_ofNat, Nat.mod_eq_of_lt (by omega), show (BitVec.ofInt 8 15).toNat = 2 ^ 4 - 1 from rfl, Nat.and_two_pow_sub_one_eq_mod, IntKind.wrap_u8]
  omega
theorem i64_and15 (n : Nat) (hn : n ≤ 1000000) : bits .and .i64 (n : Int) 15 = ((n % 16 : Nat) : Int) := by
  show IntKind.i64.wrap ((BitVec.ofInt 64 (n : Int) &&& BitVec.ofInt 64 15).toNat : Int) = _
  rw [BitVec.toNat_and, BitVec.ofInt_natCast, BitVec.toNat_ofNat, Nat.mod_eq_of_lt (by omega), show (BitVec.ofInt 64 15).toNat = 2 ^ 4 - 1 from rfl, Nat.and_two_pow_sub_one_eq_mod, IntKind.wrap_i64]
  omega
set_option maxRecDepth 100000 in
set_option maxHeartbeats 1000000 in
theorem digits_any (m : Nm) (w : World) : Calls Tryz.prog 160 #[m.val] w (RowPost w 3 1 18 ((digits m).map N)) := by
  have hmk : ∀ W : World, (Instr.makeSlice 96 (.int .i64 0) (.int .i64 18)).run Tryz.prog W = .ok (.slice (some ⟨W.heap.size, 0, none⟩) 0 18) (W.alloc (.cells (Array.replicate 18 (.int .i64 0)) 3)) := fun W => by kernel_rfl
  go_enter Tryz.func160, Tryz.ntmps160
  go_wp2_with (refine wpList_load_row rfl 29 _ rfl w.heap.size rfl 29 m.cells (0, 0) _ ((Blk.new w _ _).alloc _) Tryz.underlying29 rfl size_name ?_)
  clear hmk
  go_loopw [3, 4, 11] (fun v r i wr => ∃ k : Nat, k ≤ 8 ∧ i = .int .i64 k ∧ r = .int .i64 ((240 - digS (m.bytes.take k) : Nat) : Int) ∧ wr.ownsRow w.heap.size 3 1 v (2 * k) ((digL (m.bytes.take k)).map N) ∧ Below w.heap.size w wr)
    (fun _ _ i _ => 8 - (intOf i).toNat)
  case atStart => 
    refine ⟨0, by omega, rfl, rfl, ?_, ?_⟩
    · have h := World.ownsRow_made (base := w.heap.size) (e := 3) (size := 1) (w.alloc (.cells m.cells 29)) (Array.replicate 18 (.int .i64 0)) 18 (by simp) (by unfold maxLen; omega) (by simp)
      simpa [digL] using h
    · exact ((Below.refl _ _).alloc (Nat.le_refl _) _).alloc (by simp) _
  case round =>
    obtain ⟨k, hk, rfl, rfl, hown, hb⟩ := hrel
    have hS : digS (m.bytes.take k) ≤ 30 * (m.bytes.take k).length := digS_le _
    have hl : (m.bytes.take k).length ≤ k := List.length_take_le _ _
    by_cases hlt : k < 8
    · have hk8 : k < m.bytes.length := hlt
      have hix := ixn m k hk8
      simp only [Nm.val] at hix
      have e1 := take_snoc' m.bytes k hk8
      have e2 := digS_snoc (m.bytes.take k) m.bytes[k]
      have e3 := digL_snoc (m.bytes.take k) m.bytes[k]
      rw [← e1] at e2 e3
      have E2 := Lib.hid e2
      have E3 := Lib.hid e3
      clear e1 e2 e3
      generalize m.bytes[k] = b at *
      generalize m.bytes.take k = tk at *
      have hb8 := b.toNat_lt
      have h15 := u8_and15 b
      have h15' : bits .and .u8 (b.toNat : Int) 15 = (b.toNat : Int) % 16 := by rw [h15]; omega
      clear h15
      obtain ⟨S, hSe⟩ : ∃ S, S = digS tk := ⟨_, rfl⟩
      rw [← hSe] at hS
      rw [← hSe] at E2
      rw [← hSe]
      clear hSe
      go_wp2_with (at_builtin; refine wpList_app rfl (.tmp 20) (.tmp 23) _ rfl w.heap.size 3 (.int .i64 0) 1 8 Tryz.underlying96 info_int rfl (by decide) _ (2 * k) _ rfl (hown.alloc _) (wr.heap.size + 1) _ 2 2 [N (b.toNat / 16), N (b.toNat % 16)] rfl rfl ?r1 ?r2 ?r3 ?r4 ?r5 ?_)
      case r1 =>
        have h := Rd.of_blk (Blk.new wr 3 #[N (b.toNat / 16), N (b.toNat % 16)]) 0 2
        simpa [N] using h
      case r2 => intro u hu; simp at hu; rcases hu with rfl | rfl <;> rfl
      case r3 => omega
      case r4 => unfold maxLen; omega
      case r5 => have := hb.size; simp; omega
      intro v2 w2 hown2 hg2 hat2
      have hb2 : Below w.heap.size w w2 := below_own (hb.alloc hb.size _) (hown.alloc _) hg2
      clear hat2 hg2 hown hix
      go_wp2
      go_roundw
      case rel =>
        refine ⟨k + 1, by omega, by go_num, ?_, ?_, hb2⟩
        · rw [E2.out]; go_num
        · rw [E3.out, List.map_append]; exact hown2
      case measure => simp [intOf]; omega
    · obtain rfl : k = 8 := by omega
      have hbb : m.bytes.take 8 = m.bytes := rfl
      rw [hbb] at hown hS hl
      rw [hbb]
      clear hbb
      have e0 : digits m = digL m.bytes ++ [(240 - digS m.bytes) / 16, (240 - digS m.bytes) % 16] := rfl
      have E0 := Lib.hid e0
      clear e0
      generalize digL m.bytes = dl at *
      obtain ⟨S, hSe⟩ : ∃ S, S = 240 - digS m.bytes := ⟨_, rfl⟩
      rw [← hSe] at E0
      rw [← hSe]
      have hS2 : S ≤ 240 := by omega
      have h15 : bits .and .i64 (S : Int) 15 = (S : Int) % 16 := by rw [i64_and15 S (by omega)]; omega
      clear hS hl hSe
      go_wp2_with (at_builtin; refine wpList_app rfl (.tmp 31) (.tmp 36) _ rfl w.heap.size 3 (.int .i64 0) 1 8 Tryz.underlying96 info_int rfl (by decide) _ (2 * 8) _ rfl (hown.alloc _) (wr.heap.size + 1) _ 2 2 [N (S / 16), N (S % 16)] rfl rfl ?q1 ?q2 ?q3 ?q4 ?q5 ?_)
      case q1 =>
        have h := Rd.of_blk (Blk.new wr 3 #[N (S / 16), N (S % 16)]) 0 2
        simpa [N] using h
      case q2 => intro u hu; simp at hu; rcases hu with rfl | rfl <;> rfl
      case q3 => omega
      case q4 => unfold maxLen; omega
      case q5 => have := hb.size; simp; omega
      intro v2 w2 hown2 hg2 hat2
      have hb2 : Below w.heap.size w w2 := below_own (hb.alloc hb.size _) (hown.alloc _) hg2
      clear hat2 hg2 hown
      go_wp2
      go_ret
      obtain ⟨A2, c2, rfl⟩ := own_form hown2
      refine ⟨A2, c2, rfl, ?_, hb2⟩
      rw [E0.out, List.map_append]
      exact hown2
end Go.Proofs.YthmecidpjlaonaaGreat
namespace Go.Proofs.YthmecidpjlaonaaGreat
open Go.RowKit

abbrev zero8 : Array Value := #[.int .u8 0, .int .u8 0, .int .u8 0, .int .u8 0, .int .u8 0, .int .u8 0, .int .u8 0, .int .u8 0]
theorem bn_eq (n : Nat) (h : n ≤ 255) : B (UInt8.ofNat n) = .int .u8 (n : Int) := by
  rw [Value.int.injEq]
  refine ⟨rfl, ?_⟩
  simp; omega
theorem below_none {w w1 w2 : World} (hb : Below w.heap.size w w1) (hg : w1.grownBy w2 none) : Below w.heap.size w w2 := hb.grown hg hb.size (by rintro k ⟨⟩)

set_option maxRecDepth 100000 in
set_option maxHeartbeats 1000000 in
theorem walk_any (v : Nm) (c p q : Nat) (w : World) (hc : c ≤ 255) (hpq : p ≤ q) (hq : q ≤ 255) :
    Calls Tryz.prog 161 #[v.val, .int .i64 (c : Int), .int .i64 (p : Int), .int .i64 (q : Int)] w (NmPost w (walkF v c p (q - p))) := by
  obtain ⟨i0, hi, hz0, hz1, hz2⟩ := info_parts info_byte
  go_enter Tryz.func161, Tryz.ntmps161
  go_wp2
  have hX : Blk ((w.alloc (Obj.cells v.cells 29)).alloc (Obj.cells zero8 29)) w.heap.size 29 v.cells := (Blk.new w _ _).alloc _
  have hR : Blk ((w.alloc (Obj.cells v.cells 29)).alloc (Obj.cells zero8 29)) (w.heap.size + 1) 29 zero8 := by
    have := Blk.new (w.alloc (Obj.cells v.cells 29)) 29 zero8
    simpa using this
  have hbW : Below w.heap.size w ((w.alloc (Obj.cells v.cells 29)).alloc (Obj.cells zero8 29)) := ((Below.refl _ _).alloc (Nat.le_refl _) _).alloc (by simp) _
  generalize ((w.alloc (Obj.cells v.cells 29)).alloc (Obj.cells zero8 29)) = W at *
  go_loopw [13] (fun i wr => ∃ k : Nat, k ≤ q - p ∧ i = .int .i64 k ∧ Blk wr w.heap.size 29 (walkF v c p k).cells ∧ Blk wr (w.heap.size + 1) 29 zero8 ∧ Below w.heap.size w wr)
    (fun i _ => q - (intOf i).toNat)
  case atStart => exact ⟨0, by omega, rfl, hX, hR, hbW⟩
  case round =>
    clear hX hR hbW
    obtain ⟨k, hk, rfl, hX, hR, hb⟩ := hrel
    by_cases hlt : k < q - p
    · obtain ⟨r, hr⟩ : ∃ r, r = walkF v c p (k + 1) := ⟨_, rfl⟩
      have hr2 : sumF (33 :: ((walkF v c p k).bytes ++ [UInt8.ofNat c, UInt8.ofNat (p + k)])) = r := by rw [hr]; rfl
      have Hr := Lib.hid hr; clear hr
      have Hr2 := Lib.hid hr2; clear hr2
      generalize walkF v c p k = x at *
      have hb1 := bn_eq c hc
      have hb2 := bn_eq (p + k) (by omega)
      generalize UInt8.ofNat c = b1 at *
      generalize UInt8.ofNat (p + k) = b2 at *
      have HB1 := Lib.hid hb1; clear hb1
      have HB2 := Lib.hid hb2; clear hb2
      have hlt2 : k + p < q := by omega
      have hltX := hX.lt
      go_wp2_with (at_builtin; refine wpList_append_grows _ rfl (.tmp 16) (.tmp 23) _ rfl 5 i0 (.int .u8 0) 1 1 Tryz.underlying32 hi hz0 hz1 hz2 rfl (by decide) (some ⟨w.heap.size, 0, none⟩) 8 8 (x.bytes.map B) rfl ?r0 rfl ?r1 ⟨wr.heap.size, 0, none⟩ 2 2 [B b1, B b2] rfl rfl ?r2 ?r3 ?r4 ?r5 ?r6 ?_)
      case r0 => intro h; cases h
      case r1 =>
        intro b hbe j u hu
        injection hbe with hbe; subst hbe
        rw [Addr.add_mid, Nat.zero_add, (hX.alloc _).cell]
        simpa [Nm.bytes] using hu
      case r2 =>
        intro j u hu
        rw [Addr.add_mid, Nat.zero_add, (Blk.new wr _ _).cell, ← hu, HB1.out, HB2.out]
        simp
      case r3 => intro u hu; simp at hu; rcases hu with rfl | rfl <;> rfl
      case r4 => omega
      case r5 => unfold maxLen; omega
      case r6 => omega
      intro v2 w2 hown2 hg2
      have hX2 := (hX.alloc _).kept hg2 (by simp)
      have hR2 := (hR.alloc _).kept hg2 (by simp)
      have hb2 := below_none (hb.alloc hb.size _) hg2
      have e : x.bytes.map B ++ [B b1, B b2] = (x.bytes ++ [b1, b2]).map B := by simp
      rw [e] at hown2
      obtain ⟨A2, c2, rfl⟩ := own_form hown2
      have hcall : Calls Tryz.prog 96 #[.int .u8 33, .slice A2 (8 + 2) c2] w2 (NmPost w2 r) := tagged_core 33 A2 c2 (x.bytes ++ [b1, b2]) r w2 (Rd.of_own hown2) (by simp [Nm.bytes]) Hr2.out
      have HC := Lib.hid hcall
      clear hcall e hown2 hg2 hX hR hb
      go_wp2_with fail
      refine HC.out.mono ?_
      rintro en w3 ⟨rfl, hb3⟩
      have hX3 := hX2.below hb3 hX2.lt
      have hR3 := hR2.below hb3 hR2.lt
      have hbw3 := hb2.trans (hb3.mono hb2.size)
      clear hX2 hR2 hb2 hb3 HC
      go_wp2_with (refine wpList_store_blk rfl 29 (.tmp 4) (.tmp 25) rfl w.heap.size _ rfl rfl 29 _ hX3 rfl size_name ?s2 ?_)
      case s2 => exact ⟨rfl, rfl, rfl, rfl, rfl, rfl, rfl, rfl⟩
      intro w4 hX4 hg4 hs4
      have hbw4 : Below w.heap.size w w4 := hbw3.grown hg4 hbw3.size (by rintro j ⟨⟩; omega)
      have hR4 := hR3.kept hg4 (by simp)
      clear hX3 hR3 hbw3 hg4 hs4
      go_wp2
      go_roundw
      case rel => exact ⟨k + 1, by omega, by go_num, by rw [← Hr.out]; exact hX4, hR4, hbw4⟩
      case measure => simp [intOf]; omega
    · have hkq : q - p = k := by omega
      have h1 : k + p ≤ q := by omega
      have h2 : q ≤ k + p := by omega
      have Hk := Lib.hid hkq
      clear hkq hlt hk
      obtain ⟨x, hx⟩ : ∃ x, x = walkF v c p k := ⟨_, rfl⟩
      rw [← hx] at hX
      have Hx := Lib.hid hx; clear hx
      have hltX := hX.lt
      go_wp2_with (first
        | (refine wpList_load_row rfl 29 _ rfl w.heap.size rfl 29 x.cells (0, 0) _ hX Tryz.underlying29 rfl size_name ?_)
        | (refine wpList_store_blk rfl 29 (.tmp 8) (.tmp 27) rfl (w.heap.size + 1) _ rfl rfl 29 _ hR rfl size_name ?s3 ?_))
      case s3 => exact ⟨rfl, rfl, rfl, rfl, rfl, rfl, rfl, rfl⟩
      intro w4 hR4 hg4 hs4
      go_wp2
      have hbw4 : Below w.heap.size w w4 := hb.grown hg4 hb.size (by rintro j ⟨⟩; omega)
      exact bodyPost_ret (results_cell_row (g := w.heap.size + 1) rfl _ _ _ _ _ _ rfl hR4 Tryz.underlying29 rfl size_name) rfl ⟨by rw [Hk.out, ← Hx.out], hbw4⟩
end Go.Proofs.YthmecidpjlaonaaGreat
namespace Go.Proofs.YthmecidpjlaonaaGreat
open Go.RowKit

end Go.Proofs.YthmecidpjlaonaaGreat
namespace Go.Proofs.YthmecidpjlaonaaGreat
open Go.RowKit

theorem fb_snoc (l : List Nm) (k : Nat) (x : Nm) (h : l[k]? = some x) : (l.take (k + 1)).flatMap Nm.bytes = (l.take k).flatMap Nm.bytes ++ x.bytes := by
  obtain ⟨hk, rfl⟩ := List.getElem?_eq_some_iff.1 h
  rw [take_snoc' l k hk, List.flatMap_append]; simp
theorem fb_len (l : List Nm) : (l.flatMap Nm.bytes).length = 8 * l.length := by
  induction l with
  | nil => rfl
  | cons a r ih => rw [List.flatMap_cons, List.length_append, ih, List.length_cons]; simp [Nm.bytes]; omega
theorem own_new {w : World} {base e size n : Nat} {v : Value} {xs : List Value} (h : w.ownsRow base e size v n xs) : v.ownBlock = none ∨ v.ownBlock ≠ some w.heap.size :=
  .inr fun hv => by have := (h.lt _ hv).2; omega
/-- Name k of a row of names that is read. -/
theorem Rd.name {w : World} {B' : Nat} {A : Option Addr} {l : List Nm} (h : Rd w B' A (l.flatMap nmc)) {k : Nat} {x : Nm} (hk : l[k]? = some x) :
    ∃ b o, A = some ⟨b, o, none⟩ ∧ b < B' ∧ ∀ j u, x.cells[j]? = some u → w.cell? ⟨b, o + k * 8 + j, none⟩ = some u := by
  have hpos := (List.getElem?_eq_some_iff.1 hk).1
  obtain ⟨b, o, rfl, hb, hc⟩ := h.cells (by
    intro e
    have := flat_length nmc 8 l (nmc_len l)
    rw [e] at this
    simp at this; omega)
  refine ⟨b, o, rfl, hb, fun j u hu => ?_⟩
  have hj : j < 8 := (Array.getElem?_eq_some_iff.1 hu).1
  rw [Nat.add_assoc]
  refine hc _ u ?_
  rw [flat_get nmc 8 l (nmc_len l) k j x hk hj, ← hu]
  simp

set_option maxRecDepth 100000 in
set_option maxHeartbeats 1000000 in
theorem public_any (A : Option Addr) (c : Nat) (l : List Nm) (w : World) (hr : Rd w w.heap.size A (l.flatMap nmc)) (hlen : l.length ≤ 1000) :
    Calls Tryz.prog 162 #[.slice A l.length c] w (NmPost w (pubF l)) := by
  have hmk : ∀ W : World, (Instr.makeSlice 32 (.int .i64 0) (.int .i64 144)).run Tryz.prog W = .ok (.slice (some ⟨W.heap.size, 0, none⟩) 0 144) (W.alloc (.cells (Array.replicate 144 (.int .u8 0)) 5)) := fun W => by kernel_rfl
  have HR := Lib.hid hr; clear hr
  obtain ⟨z144, hz⟩ : ∃ z, z = Array.replicate 144 (Value.int .u8 0) := ⟨_, rfl⟩
  rw [← hz] at hmk
  have hzs : z144.size = 144 := by rw [hz]; simp
  have Hz := Lib.hid hzs
  clear hz hzs
  go_enter Tryz.func162, Tryz.ntmps162
  go_wp2
  clear hmk
  have hR : Blk ((w.alloc (Obj.cells zero8 29)).alloc (Obj.cells z144 5)) w.heap.size 29 zero8 := (Blk.new w _ _).alloc _
  have hown : ((w.alloc (Obj.cells zero8 29)).alloc (Obj.cells z144 5)).ownsRow w.heap.size 5 1 (.slice (some ⟨w.heap.size + 1, 0, none⟩) 0 144) 0 (([] : List UInt8).map B) := by
    have h := World.ownsRow_made (base := w.heap.size) (e := 5) (size := 1) (w.alloc (Obj.cells zero8 29)) z144 144 (by simp) (by unfold maxLen; omega) (by rw [Hz.out])
    simpa using h
  have hbW : Below w.heap.size w ((w.alloc (Obj.cells zero8 29)).alloc (Obj.cells z144 5)) := ((Below.refl _ _).alloc (Nat.le_refl _) _).alloc (by simp) _
  generalize ((w.alloc (Obj.cells zero8 29)).alloc (Obj.cells z144 5)) = W at *
  go_loopw [3, 9] (fun v i wr => ∃ k : Nat, k ≤ l.length ∧ i = .int .i64 k ∧ wr.ownsRow w.heap.size 5 1 v (8 * k) (((l.take k).flatMap Nm.bytes).map B) ∧ Blk wr w.heap.size 29 zero8 ∧ Below w.heap.size w wr)
    (fun _ i _ => l.length - (intOf i).toNat)
  case atStart => exact ⟨0, by omega, rfl, hown, hR, hbW⟩
  case round =>
    clear hown hR hbW
    obtain ⟨k, hk, rfl, hown, hR, hb⟩ := hrel
    by_cases hlt : k < l.length
    · obtain ⟨x, hx⟩ : ∃ x, l[k]? = some x := ⟨_, List.getElem?_eq_getElem hlt⟩
      have e1 := fb_snoc l k x hx
      have E1 := Lib.hid e1; clear e1
      obtain ⟨b, o, rfl, hbk, hcell⟩ := Rd.name (HR.out.below hb) hx
      generalize List.flatMap Nm.bytes (l.take k) = bs at *
      have Hx := Lib.hid hx; clear hx
      have Hcell := Lib.hid hcell; clear hcell
      go_wp2_with (first
        | (refine wpList_load_at rfl 29 _ rfl b (o + k * 8) rfl x.cells _ Hcell.out Tryz.underlying29 rfl size_name ?_)
        | (refine wpList_store_blk rfl 29 (.tmp 5) (.tmp 12) rfl wr.heap.size _ rfl rfl 29 _ (Blk.new wr _ _) rfl size_name ?s1 ?_))
      case s1 => exact ⟨rfl, rfl, rfl, rfl, rfl, rfl, rfl, rfl⟩
      intro w2 hV2 hg2 hs2
      have hown2 := (hown.alloc _).kept hg2 (own_new hown)
      have hR2 := (hR.alloc _).kept hg2 (by have := hR.lt; simp; omega)
      have hb2 : Below w.heap.size w w2 := (hb.alloc hb.size _).grown hg2 (by have := hb.size; simp; omega) (by rintro j ⟨⟩; exact hb.size)
      clear hown hR hb hg2
      have hltV := hV2.lt
      clear hs2
      go_wp2_with (at_builtin; refine wpList_app rfl (.tmp 13) (.tmp 14) _ rfl w.heap.size 5 (.int .u8 0) 1 1 Tryz.underlying32 info_byte rfl (by decide) _ (8 * k) _ rfl hown2 w2.heap.size _ 8 8 (x.bytes.map B) rfl rfl ?r1 ?r2 ?r3 ?r4 ?r5 ?_)
      case r1 =>
        have h := Rd.of_blk hV2 0 8
        simpa [Nm.bytes] using h
      case r2 => exact fun u hu => bytes_one hu
      case r3 => omega
      case r4 => unfold maxLen; omega
      case r5 => exact hb2.size
      intro v3 w3 hown3 hg3 hat3
      have hb3 := below_own hb2 hown2 hg3
      have hR3 := hR2.kept hg3 (own_ne hown2 hR2 (by decide))
      clear hown2 hb2 hR2 hV2 hltV hg3 hat3
      go_wp2
      go_roundw
      case rel => exact ⟨k + 1, by omega, by go_num, by rw [E1.out, List.map_append]; exact hown3, hR3, hb3⟩
      case measure => simp [intOf]; omega
    · obtain rfl : k = l.length := by omega
      rw [List.take_of_length_le (Nat.le_refl _)] at hown
      obtain ⟨r, hr⟩ : ∃ r, r = pubF l := ⟨_, rfl⟩
      have hr2 : sumF (34 :: l.flatMap Nm.bytes) = r := hr.symm
      have Hr := Lib.hid hr; clear hr
      have Hr2 := Lib.hid hr2; clear hr2
      have hbl := fb_len l
      obtain ⟨A2, c2, rfl⟩ := own_form hown
      have hcall : Calls Tryz.prog 96 #[.int .u8 34, .slice A2 (8 * l.length) c2] wr (NmPost wr r) := by
        rw [← hbl]; exact tagged_core 34 A2 c2 (l.flatMap Nm.bytes) r wr (by rw [← hbl] at hown; exact Rd.of_own hown) (by rw [hbl]; omega) Hr2.out
      have HC := Lib.hid hcall
      clear hcall hown hbl
      go_wp2_with fail
      refine HC.out.mono ?_
      rintro en w3 ⟨rfl, hb3⟩
      have hR3 := hR.below hb3 hR.lt
      have hbw3 := hb.trans (hb3.mono hb.size)
      clear hR hb hb3 HC
      go_wp2_with (refine wpList_store_blk rfl 29 (.tmp 2) (.tmp 18) rfl w.heap.size _ rfl rfl 29 _ hR3 rfl size_name ?s2 ?_)
      case s2 => exact ⟨rfl, rfl, rfl, rfl, rfl, rfl, rfl, rfl⟩
      intro w4 hR4 hg4 hs4
      have hbw4 : Below w.heap.size w w4 := hbw3.grown hg4 hbw3.size (by rintro j ⟨⟩; omega)
      go_wp2
      exact bodyPost_ret (results_cell_row (g := w.heap.size) rfl _ _ _ _ _ _ rfl hR4 Tryz.underlying29 rfl size_name) rfl ⟨by rw [← Hr.out], hbw4⟩
end Go.Proofs.YthmecidpjlaonaaGreat
namespace Go.Proofs.YthmecidpjlaonaaGreat
open Go.RowKit

end Go.Proofs.YthmecidpjlaonaaGreat
