/-
  Plain mathematics of the checker: what a proof's bytes answer (checkF). No condition.
  checker.Check returns the set and the error that a proof's bytes answer (checkF), and changes nothing that was there. Condition: keys and proof lie in memory below the call.
-/
import Derived.Test.YthmecidpjlaonaaGFault
import Derived.Test.YthmecidpjlaonaaAwake10
namespace Go.Proofs.Ythmecidpjlaonaa
open Go.RowKit

def voteA (l : List UInt8) : Vt × Int := decVote (l.take 23)
def voteB (l : List UInt8) : Vt × Int := decVote ((l.drop 393).take 23)
def sigA (l : List UInt8) : List UInt8 := (l.take 393).drop 23
def sigB (l : List UInt8) : List UInt8 := ((l.drop 393).take 393).drop 23
/-- The first error of the element at the head of l. -/
def elemF (keys : List Nm) (l : List UInt8) (before : Int) : Int :=
  if ¬ (voteA l).2 = 0 then (voteA l).2 else if ¬ (voteB l).2 = 0 then (voteB l).2 else faultF keys (voteA l).1 (sigA l) (voteB l).1 (sigB l) before
/-- The set and the error of k elements. -/
def checkL (keys : List Nm) : Nat → List UInt8 → Int → Nat → Int × Int
  | 0, _, _, m => ((m : Int), 0)
  | k + 1, l, before, m =>
    if elemF keys l before = 0 then checkL keys k (l.drop 786) (voteA l).1.signer (m ||| 2 ^ (voteA l).1.signer.toNat) else (0, elemF keys l before)
/-- The set and the error of a proof. -/
def checkF (keys : List Nm) (p : List UInt8) : Int × Int :=
  match p with
  | [] => (0, 2)
  | n :: r => if n.toNat = 0 ∨ 10 < n.toNat then (0, 4) else if r.length < n.toNat * 786 then (0, 2) else if n.toNat * 786 < r.length then (0, 3) else checkL keys n.toNat r (-1) 0
theorem decVote_err (l : List UInt8) (h : l.length = 23) : (decVote l).2 = 0 ∨ (decVote l).2 = 11 := by
  unfold decVote
  rw [if_neg (by omega), if_neg (by omega)]
  split
  · exact .inl rfl
  · exact .inr rfl
theorem decVote_ok (l : List UInt8) : (decVote l).1.ok := by
  unfold decVote
  split
  · exact ⟨by decide, by decide⟩
  · split
    · exact ⟨by decide, by decide⟩
    · split
      · exact decV_ok l
      · exact ⟨by decide, by decide⟩
theorem elemF_zero {keys : List Nm} {l : List UInt8} {before : Int} (h : elemF keys l before = 0) :
    (voteA l).2 = 0 ∧ (voteB l).2 = 0 ∧ faultF keys (voteA l).1 (sigA l) (voteB l).1 (sigB l) before = 0 := by
  unfold elemF at h
  by_cases h1 : (voteA l).2 = 0
  · by_cases h2 : (voteB l).2 = 0
    · rw [if_neg (by simpa using h1), if_neg (by simpa using h2)] at h
      exact ⟨h1, h2, h⟩
    · rw [if_neg (by simpa using h1), if_pos h2] at h
      exact absurd h h2
  · rw [if_pos h1] at h
    exact absurd h h1
theorem faultF_zero {keys : List Nm} {a b : Vt} {s t : List UInt8} {before : Int} (h : faultF keys a s b t before = 0) :
    ConfP a b ∧ lessV a b = true ∧ before < a.signer ∧ a.signer < (keys.length : Int) ∧ verS (keys.getD a.signer.toNat Nm.zero) a s = true ∧ verS (keys.getD a.signer.toNat Nm.zero) b t = true := by
  unfold faultF at h
  by_cases h1 : ConfP a b ∧ lessV a b = true
  · rw [if_pos h1] at h
    by_cases h2 : a.signer ≤ before
    · rw [if_pos h2] at h; exact absurd h (by decide)
    · rw [if_neg h2] at h
      by_cases h3 : (keys.length : Int) ≤ a.signer
      · rw [if_pos h3] at h; exact absurd h (by decide)
      · rw [if_neg h3] at h
        by_cases h4 : verS (keys.getD a.signer.toNat Nm.zero) a s = true ∧ verS (keys.getD a.signer.toNat Nm.zero) b t = true
        · exact ⟨h1.1, h1.2, by omega, by omega, h4.1, h4.2⟩
        · rw [if_neg h4] at h; exact absurd h (by decide)
  · rw [if_neg h1] at h; exact absurd h (by decide)
theorem i64_or (a b : Nat) (ha : a < 9223372036854775808) (hb : b < 9223372036854775808) : bits .or .i64 (a : Int) (b : Int) = ((a ||| b : Nat) : Int) := by
  have hx : a ||| b < 2 ^ 63 := Nat.or_lt_two_pow (by omega) (by omega)
  show IntKind.i64.wrap ((BitVec.ofInt 64 (a : Int) ||| BitVec.ofInt 64 (b : Int)).toNat : Int) = _
  rw [BitVec.toNat_or, BitVec.ofInt_natCast, BitVec.ofInt_natCast, BitVec.toNat_ofNat, BitVec.toNat_ofNat, Nat.mod_eq_of_lt (by omega), Nat.mod_eq_of_lt (by omega), IntKind.wrap_i64]
  omega
theorem or_lt10 (m s : Nat) (hm : m < 1024) (hs : s ≤ 9) : m ||| 2 ^ s < 1024 :=
  Nat.or_lt_two_pow (n := 10) hm (Nat.pow_lt_pow_right (by omega) (by omega))
theorem shl_one (s : Nat) (hs : s ≤ 9) (w : World) : (Op.shift .shl .i64 1 .i64 (s : Int)).run Try.prog w = .ok (.int .i64 ((2 ^ s : Nat) : Int)) w := by
  rcases (by omega : s = 0 ∨ s = 1 ∨ s = 2 ∨ s = 3 ∨ s = 4 ∨ s = 5 ∨ s = 6 ∨ s = 7 ∨ s = 8 ∨ s = 9) with rfl | rfl | rfl | rfl | rfl | rfl | rfl | rfl | rfl | rfl <;> kernel_rfl

theorem voteA_take (l : List UInt8) : voteA (l.take 786) = voteA l := by
  unfold voteA; rw [List.take_take]; rfl
theorem voteB_take (l : List UInt8) : voteB (l.take 786) = voteB l := by
  unfold voteB; rw [List.drop_take, List.take_take]; rfl
theorem sigA_take (l : List UInt8) : sigA (l.take 786) = sigA l := by
  unfold sigA; rw [List.take_take]; rfl
theorem sigB_take (l : List UInt8) : sigB (l.take 786) = sigB l := by
  have e : (l.take 786).drop 393 = (l.drop 393).take 393 := by rw [List.drop_take]
  unfold sigB; rw [e, List.take_take]; rfl
theorem sigA_len (l : List UInt8) (h : 786 ≤ l.length) : (sigA l).length = 370 := by unfold sigA; simp; omega
theorem sigB_len (l : List UInt8) (h : 786 ≤ l.length) : (sigB l).length = 370 := by unfold sigB; simp; omega
theorem take23 (l : List UInt8) : ((l.take 393).take 23) = l.take 23 := by rw [List.take_take]; rfl
theorem takeB23 (l : List UInt8) : ((l.drop 393).take 393).take 23 = (l.drop 393).take 23 := by rw [List.take_take]; rfl
/-- The halves of an element. -/
theorem Rd.halves {w : World} {B' b o : Nat} {l : List UInt8} (h : Rd w B' (some ⟨b, o, none⟩) (l.map B)) : Rd w B' (some ⟨b, o, none⟩) ((l.take 393).map B) ∧ Rd w B' (some ⟨b, o + 393, none⟩) (((l.drop 393).take 393).map B) := by
  refine ⟨by rw [List.map_take]; exact h.take 393, ?_⟩
  rcases h with h | ⟨b', o', e, hb, hc⟩
  · rw [List.map_eq_nil_iff] at h; subst h; exact .inl (by simp)
  · injection e with e
    injection e with e1 e2
    subst e1; subst e2
    refine Rd.mk hb fun j u hu => ?_
    rw [Nat.add_assoc]
    refine hc _ u ?_
    rw [List.map_take, List.getElem?_take] at hu
    split at hu
    · rw [← hu, List.map_drop, List.getElem?_drop]
    · cases hu

theorem edec_ok_any (A : Option Addr) (c : Nat) (l : List UInt8) (w : World) (hr : Rd w w.heap.size A (l.map B)) (hl : l.length = 786) (hc : 786 ≤ c) (hm : c ≤ maxLen) (h1 : (voteA l).2 = 0) (h2 : (voteB l).2 = 0) :
    Calls Try.prog 62 #[.slice A 786 c] w (EDecOk w (voteA l).1 (sigA l) (voteB l).1 (sigB l)) := by
  obtain ⟨b, o, rfl, _, _⟩ := hr.cells (by intro e; rw [List.map_eq_nil_iff] at e; subst e; simp at hl)
  refine edec_ok b o c _ _ _ _ w hc hm (fun W hW => ?_) (fun W hW => ?_)
  · have h := sdec_ok (some ⟨b, o, none⟩) c (l.take 393) W (((hr.below hW).more hW.size).halves.1) (by simp; omega) (by omega) hm (by rw [take23]; exact h1)
    rw [take23] at h; exact h
  · have h := sdec_ok (some ⟨b, o + 393, none⟩) (c - 393) ((l.drop 393).take 393) W (((hr.below hW).more hW.size).halves.2) (by simp; omega) (by omega) (by unfold maxLen at *; omega) (by rw [takeB23]; exact h2)
    rw [takeB23] at h; exact h

theorem redec_ok_any (A : Option Addr) (c : Nat) (l : List UInt8) (w : World) (hr : Rd w w.heap.size A (l.map B)) (hl : l.length = 786) (hc : 786 ≤ c) (hm : c ≤ maxLen) (h1 : (voteA l).2 = 0) (h2 : (voteB l).2 = 0) :
    Calls Try.prog 26 #[.slice A 786 c] w (EDecOk w (voteA l).1 (sigA l) (voteB l).1 (sigB l)) := by
  obtain ⟨b, o, rfl, _, _⟩ := hr.cells (by intro e; rw [List.map_eq_nil_iff] at e; subst e; simp at hl)
  refine redec_ok b o c _ _ _ _ w hc hm (fun W hW => ?_) (fun W hW => ?_)
  · have h := rsdec_ok (some ⟨b, o, none⟩) c (l.take 393) W (((hr.below hW).more hW.size).halves.1) (by simp; omega) (by omega) hm (by rw [take23]; exact h1)
    rw [take23] at h; exact h
  · have h := rsdec_ok (some ⟨b, o + 393, none⟩) (c - 393) ((l.drop 393).take 393) W (((hr.below hW).more hW.size).halves.2) (by simp; omega) (by omega) (by unfold maxLen at *; omega) (by rw [takeB23]; exact h2)
    rw [takeB23] at h; exact h

theorem edec_err_any (A : Option Addr) (c : Nat) (l : List UInt8) (w : World) (hr : Rd w w.heap.size A (l.map B)) (hl : l.length = 786) (hc : 786 ≤ c) (hm : c ≤ maxLen) (n : Int) (h : (¬ (voteA l).2 = 0 ∧ (voteA l).2 = n) ∨ ((voteA l).2 = 0 ∧ ¬ (voteB l).2 = 0 ∧ (voteB l).2 = n)) :
    Calls Try.prog 62 #[.slice A 786 c] w (EDecErr w n) := by
  obtain ⟨b, o, rfl, _, _⟩ := hr.cells (by intro e; rw [List.map_eq_nil_iff] at e; subst e; simp at hl)
  rcases h with ⟨h1, rfl⟩ | ⟨h1, h2, rfl⟩
  · refine edec_bad1 b o c _ (by simpa using h1) w hc hm (fun W hW => ?_)
    have h := sdec_err (some ⟨b, o, none⟩) c (l.take 393) W (((hr.below hW).more hW.size).halves.1) (by simp; omega) (by omega) hm (by rw [take23]; exact h1)
    rw [take23] at h; exact h
  · refine edec_bad2 b o c (voteA l).1 (sigA l) _ (by simpa using h2) w hc hm (fun W hW => ?_) (fun W hW => ?_)
    · have h := sdec_ok (some ⟨b, o, none⟩) c (l.take 393) W (((hr.below hW).more hW.size).halves.1) (by simp; omega) (by omega) hm (by rw [take23]; exact h1)
      rw [take23] at h; exact h
    · have h := sdec_err (some ⟨b, o + 393, none⟩) (c - 393) ((l.drop 393).take 393) W (((hr.below hW).more hW.size).halves.2) (by simp; omega) (by omega) (by unfold maxLen at *; omega) (by rw [takeB23]; exact h2)
      rw [takeB23] at h; exact h
theorem redec_err_any (A : Option Addr) (c : Nat) (l : List UInt8) (w : World) (hr : Rd w w.heap.size A (l.map B)) (hl : l.length = 786) (hc : 786 ≤ c) (hm : c ≤ maxLen) (h : ¬ ((voteA l).2 = 0 ∧ (voteB l).2 = 0)) :
    Calls Try.prog 26 #[.slice A 786 c] w (EDecErr w 11) := by
  obtain ⟨b, o, rfl, _, _⟩ := hr.cells (by intro e; rw [List.map_eq_nil_iff] at e; subst e; simp at hl)
  have ka : (voteA l).2 = 0 → ∀ W, Below w.heap.size w W → Calls Try.prog 48 #[.slice (some ⟨b, o, none⟩) 393 c] W (SDecOk W (voteA l).1 (sigA l)) := fun h1 W hW => by
    have h := rsdec_ok (some ⟨b, o, none⟩) c (l.take 393) W (((hr.below hW).more hW.size).halves.1) (by simp; omega) (by omega) hm (by rw [take23]; exact h1)
    rw [take23] at h; exact h
  have ka' : ¬ (voteA l).2 = 0 → ∀ W, Below w.heap.size w W → Calls Try.prog 48 #[.slice (some ⟨b, o, none⟩) 393 c] W (SDecErr W (voteA l).2) := fun h1 W hW => by
    have h := rsdec_err (some ⟨b, o, none⟩) c (l.take 393) W (((hr.below hW).more hW.size).halves.1) (by simp; omega) (by omega) hm (by rw [take23]; exact h1)
    rw [take23] at h; exact h
  have kb : (voteB l).2 = 0 → ∀ W, Below w.heap.size w W → Calls Try.prog 48 #[.slice (some ⟨b, o + 393, none⟩) 393 (c - 393)] W (SDecOk W (voteB l).1 (sigB l)) := fun h1 W hW => by
    have h := rsdec_ok (some ⟨b, o + 393, none⟩) (c - 393) ((l.drop 393).take 393) W (((hr.below hW).more hW.size).halves.2) (by simp; omega) (by omega) (by unfold maxLen at *; omega) (by rw [takeB23]; exact h1)
    rw [takeB23] at h; exact h
  have kb' : ¬ (voteB l).2 = 0 → ∀ W, Below w.heap.size w W → Calls Try.prog 48 #[.slice (some ⟨b, o + 393, none⟩) 393 (c - 393)] W (SDecErr W (voteB l).2) := fun h1 W hW => by
    have h := rsdec_err (some ⟨b, o + 393, none⟩) (c - 393) ((l.drop 393).take 393) W (((hr.below hW).more hW.size).halves.2) (by simp; omega) (by omega) (by unfold maxLen at *; omega) (by rw [takeB23]; exact h1)
    rw [takeB23] at h; exact h
  by_cases h1 : (voteA l).2 = 0
  · by_cases h2 : (voteB l).2 = 0
    · exact absurd ⟨h1, h2⟩ h
    · exact redec_bad10 b o c (voteA l).1 (sigA l) (voteB l).2 (by simpa using h2) w hc hm (ka h1) (kb' h2)
  · by_cases h2 : (voteB l).2 = 0
    · exact redec_bad01 b o c (voteB l).1 (sigB l) (voteA l).2 (by simpa using h1) w hc hm (ka' h1) (kb h2)
    · exact redec_bad00 b o c (voteA l).2 (by simpa using h1) (voteB l).2 w hc hm (ka' h1) (kb' h2)
end Go.Proofs.Ythmecidpjlaonaa
namespace Go.Proofs.Ythmecidpjlaonaa
open Go.RowKit
attribute [local go_sem ↓] Go.wp_at_zero Go.wp_at_succ loadNm loadVt loadSg loadEv
attribute [local go_sem] runNm runVt runSg runEv pickRow_some rowAt_drew rowAt_drewN

/-- The call returns a set and an error. -/
def CheckPost (w : World) (r : Int × Int) (e : Ending) (w' : World) : Prop := e = .returned (.tuple #[.int .i64 r.1, .int .i64 r.2]) ∧ Below w.heap.size w w'
def sliceLen : Value → Nat
  | .slice _ n _ => n
  | _ => 0
/-- Where Check stands at the head of its loop. -/
def CheckRel (keys : List Nm) (w : World) (r : Int × Int) (g v bf : Value) (wr : World) : Prop :=
  ∃ (k : Nat) (l : List UInt8) (before : Int) (m : Nat) (A : Option Addr) (n c : Nat), v = .slice A n c ∧ g = .int .i64 (m : Int) ∧ bf = .int .i64 before ∧ l.length = n ∧ n = k * 786 ∧ k ≤ 10 ∧ n ≤ c ∧ c ≤ maxLen ∧ m < 1024 ∧
    Rd w w.heap.size A (l.map B) ∧ checkL keys k l before m = r ∧ Below w.heap.size w wr

theorem Rd.cut786 {w : World} {B' : Nat} {A : Option Addr} {l : List UInt8} (h : Rd w B' A (l.map B)) : Rd w B' (Option.map (fun x => { block := x.block, off := x.off + 786 }) A) ((l.drop 786).map B) := by
  rcases h with h | ⟨b, o, rfl, hb, hc⟩
  · rw [List.map_eq_nil_iff] at h; subst h; exact .inl (by simp)
  · refine .inr ⟨b, o + 786, rfl, hb, fun j u hu => ?_⟩
    rw [Nat.add_assoc]
    exact hc _ u (by rw [List.map_drop, List.getElem?_drop] at hu; exact hu)
theorem or_pow (m s : Nat) (hm : m < 1024) (hs : s ≤ 9) : Value.int .i64 (bits .or .i64 (m : Int) (wrap64 (2 ^ s))) = .int .i64 ((m ||| 2 ^ s : Nat) : Int) := by
  have h2 : 2 ^ s < 1024 := Nat.pow_lt_pow_right (n := 10) (by omega) (by omega)
  have e : wrap64 ((2 : Int) ^ s) = ((2 ^ s : Nat) : Int) := by
    rw [IntWalk.wrap64_in _ ⟨?_, ?_⟩]
    · simp
    · have : (0 : Int) ≤ (2 : Int) ^ s := Int.le_of_lt (Int.pow_pos (by omega))
      omega
    · have : ((2 ^ s : Nat) : Int) = (2 : Int) ^ s := by simp
      omega
  rw [e, i64_or m (2 ^ s) (by omega) (by omega)]

set_option maxRecDepth 100000 in
set_option maxHeartbeats 8000000 in
theorem check_core (K A : Option Addr) (nk ck n c : Nat) (keys : List Nm) (p : List UInt8) (r : Int × Int) (w : World) (hnk : keys.length = nk) (hn : p.length = n) (hK : Rd w w.heap.size K (keys.flatMap nmc)) (hr : Rd w w.heap.size A (p.map B))
    (hc : n ≤ c) (hm : c ≤ maxLen) (hres : checkF keys p = r) : Calls Try.prog 22 #[.slice K nk ck, .slice A n c] w (CheckPost w r) := by
  have HNK := Lib.hid hnk; clear hnk
  have HN := Lib.hid hn; clear hn
  have HK := Lib.hid hK; clear hK
  have HR := Lib.hid hr; clear hr
  have HRes := Lib.hid hres; clear hres
  unfold maxLen at hm
  go_enter Try.func22, Try.ntmps22
  go_wp2
  refine wp_scope_jumps 0 (CheckJ (CheckPost w r)) (fun _ _ => 0) rfl ?_ ?_
  · rcases p with _ | ⟨x, rl⟩
    · obtain rfl : n = 0 := HN.out.symm
      have E : Hid (r = (0, 2)) := HRes.out.symm
      go_wp2
      go_step3
      exact ⟨rfl, 2, ⟨by rw [E.out], Below.refl _ _⟩, _, _, _, _, _, _, _, _, _, _, _, _, _, _, _, _, _, _, _, _, _, _, _, _, _, _, _, _, _, _, _, _, _, _, _, _, _, _, _, _, _, _, _, _, _, _, _, _, _, _, _, _, _, _, _, _, _, _, _, _, _, _, _, _, _, _, _, _, _, _, rfl⟩
    · have h1 : rl.length + 1 = n := HN.out
      obtain ⟨b, o, rfl, hb, hcell⟩ := HR.out.cells (by simp)
      have c0 : w.cell? ⟨b, o, none⟩ = some (B x) := hcell 0 _ rfl
      have hrl : Rd w w.heap.size (some ⟨b, o + 1, none⟩) (rl.map B) := Rd.mk hb fun j u hu => by
        rw [show o + 1 + j = o + (j + 1) from by omega]
        exact hcell _ u (by simpa using hu)
      have HRL := Lib.hid hrl
      clear hrl hcell
      have hx := x.toNat_lt
      have en : ((n : Int) == 0) = false := by rw [beq_eq_false_iff_ne]; omega
      have i1 : (1 : Int) ≤ (n : Int) := by omega
      have hres : (if x.toNat = 0 ∨ 10 < x.toNat then (0, 4) else if rl.length < x.toNat * 786 then (0, 2) else if x.toNat * 786 < rl.length then (0, 3) else checkL keys x.toNat rl (-1) 0) = r := HRes.out
      clear HRes HR HN
      by_cases g0 : x.toNat = 0
      · have e0 : ((x.toNat : Int) == 0) = true := by rw [g0]; rfl
        rw [if_pos (.inl g0)] at hres
        have E := Lib.hid hres.symm
        clear hres g0 h1
        by_cases hc1 : c = 1
        all_goals
          go_wp2
          go_step3
          exact ⟨rfl, 4, ⟨by rw [E.out], Below.refl _ _⟩, _, _, _, _, _, _, _, _, _, _, _, _, _, _, _, _, _, _, _, _, _, _, _, _, _, _, _, _, _, _, _, _, _, _, _, _, _, _, _, _, _, _, _, _, _, _, _, _, _, _, _, _, _, _, _, _, _, _, _, _, _, _, _, _, _, _, _, _, _, _, rfl⟩
      · have e0 : ((x.toNat : Int) == 0) = false := by rw [beq_eq_false_iff_ne]; omega
        by_cases g1 : 10 < x.toNat
        · have e1 : decide ((10 : Int) < (x.toNat : Int)) = true := by simp; omega
          rw [if_pos (.inr g1)] at hres
          have E := Lib.hid hres.symm
          clear hres g0 h1
          by_cases hc1 : c = 1
          all_goals
            go_wp2
            go_step3
            exact ⟨rfl, 4, ⟨by rw [E.out], Below.refl _ _⟩, _, _, _, _, _, _, _, _, _, _, _, _, _, _, _, _, _, _, _, _, _, _, _, _, _, _, _, _, _, _, _, _, _, _, _, _, _, _, _, _, _, _, _, _, _, _, _, _, _, _, _, _, _, _, _, _, _, _, _, _, _, _, _, _, _, _, _, _, _, _, rfl⟩
        · have e1 : decide ((10 : Int) < (x.toNat : Int)) = false := by simp; omega
          rw [if_neg (by omega)] at hres
          by_cases g2 : rl.length < x.toNat * 786
          · rw [if_pos g2] at hres
            have E := Lib.hid hres.symm
            have g2' : n - 1 < x.toNat * 786 := by omega
            clear hres g2 h1
            by_cases hc1 : c = 1
            all_goals
              go_wp2
              go_step3
              exact ⟨rfl, 2, ⟨by rw [E.out], Below.refl _ _⟩, _, _, _, _, _, _, _, _, _, _, _, _, _, _, _, _, _, _, _, _, _, _, _, _, _, _, _, _, _, _, _, _, _, _, _, _, _, _, _, _, _, _, _, _, _, _, _, _, _, _, _, _, _, _, _, _, _, _, _, _, _, _, _, _, _, _, _, _, _, _, rfl⟩
          · rw [if_neg g2] at hres
            have hc1 : ¬ c = 1 := by omega
            by_cases g3 : x.toNat * 786 < rl.length
            · rw [if_pos g3] at hres
              have E := Lib.hid hres.symm
              have g3' : x.toNat * 786 < n - 1 := by omega
              clear hres g2 g3 h1
              go_wp2
              go_step3
              exact ⟨rfl, 3, ⟨by rw [E.out], Below.refl _ _⟩, _, _, _, _, _, _, _, _, _, _, _, _, _, _, _, _, _, _, _, _, _, _, _, _, _, _, _, _, _, _, _, _, _, _, _, _, _, _, _, _, _, _, _, _, _, _, _, _, _, _, _, _, _, _, _, _, _, _, _, _, _, _, _, _, _, _, _, _, _, _, rfl⟩
            · rw [if_neg g3] at hres
              have g2' : x.toNat * 786 ≤ n - 1 := by omega
              have g3' : n - 1 ≤ x.toNat * 786 := by omega
              have HRes := Lib.hid hres
              have H1 := Lib.hid h1
              clear hres g2 g3 h1
              go_wp2
              go_loopw [6, 7, 8] (fun g v bf wr => CheckRel keys w r g v bf wr) (fun _ v _ _ => sliceLen v)
              case atStart => exact ⟨x.toNat, rl, -1, 0, _, _, _, rfl, rfl, rfl, by have := H1.out; omega, by omega, by omega, by omega, by unfold maxLen; omega, by omega, HRL.out, HRes.out, Below.refl _ _⟩
              case round => 
                clear en i1 hx e0 e1 g0 g1 g2' g3' hc1 hc hm c0 HRL HRes H1 hb
                obtain ⟨k, l, before, m, A, n, c, rfl, rfl, rfl, hl, hnk, hk10, hc, hm, hm10, hR, hres, hbw⟩ := hrel
                have HL := Lib.hid hl; clear hl
                have HR := Lib.hid hR; clear hR
                unfold maxLen at hm
                cases k with
                | zero =>
                  obtain rfl : n = 0 := by omega
                  have E : Hid (r = ((m : Int), 0)) := hres.symm
                  clear hres hnk
                  go_wp2
                  go_ret2
                  exact ⟨by rw [E.out]; rfl, hbw⟩
                | succ k =>
                  have hn : 786 ≤ n := by omega
                  have HNK2 := Lib.hid hnk; clear hnk
                  have i1 : (786 : Int) ≤ (n : Int) := by omega
                  have i2 : (786 : Int) ≤ (c : Int) := by omega
                  have i3 : (0 : Int) < (n : Int) := by omega
                  have HD := Lib.hid hres; clear hres
                  have hrt : Rd w w.heap.size A ((l.take 786).map B) := by rw [List.map_take]; exact HR.out.take 786
                  have hlt : (l.take 786).length = 786 := by have := HL.out; simp; omega
                  by_cases h1 : (voteA l).2 = 0 ∧ (voteB l).2 = 0
                  · have hdec := fun W (hW : Below w.heap.size w W) => edec_ok_any A c (l.take 786) W ((hrt.below hW).more hW.size) hlt (by omega) (by unfold maxLen; omega) (by rw [voteA_take]; exact h1.1) (by rw [voteB_take]; exact h1.2)
                    rw [voteA_take, voteB_take, sigA_take, sigB_take] at hdec
                    have HDec := Lib.hid hdec; clear hdec hrt hlt
                    have hsa := sigA_len l (by have := HL.out; omega)
                    have hsb := sigB_len l (by have := HL.out; omega)
                    have hoka : (voteA l).1.ok := decVote_ok _
                    have hokb : (voteB l).1.ok := decVote_ok _
                    have hel : elemF keys l before = faultF keys (voteA l).1 (sigA l) (voteB l).1 (sigB l) before := by unfold elemF; rw [if_neg (by simpa using h1.1), if_neg (by simpa using h1.2)]
                    have hck : (if faultF keys (voteA l).1 (sigA l) (voteB l).1 (sigB l) before = 0 then checkL keys k (l.drop 786) (voteA l).1.signer (m ||| 2 ^ (voteA l).1.signer.toNat) else (0, faultF keys (voteA l).1 (sigA l) (voteB l).1 (sigB l) before)) = r := by rw [← hel]; exact HD.out
                    have hfz := fun (h : faultF keys (voteA l).1 (sigA l) (voteB l).1 (sigB l) before = 0) => faultF_zero h
                    have HCk := Lib.hid hck
                    have Hfz := Lib.hid hfz
                    have HSA := Lib.hid hsa
                    have HSB := Lib.hid hsb
                    have HOA := Lib.hid hoka
                    have HOB := Lib.hid hokb
                    clear hck hfz hel HD h1 hsa hsb hoka hokb
                    generalize (voteA l).1 = va at *
                    generalize (voteB l).1 = vb at *
                    generalize sigA l = sa at *
                    generalize sigB l = sb at *
                    go_wp2_with fail
                    refine (HDec.out _ hbw).mono ?_
                    rintro en w2 ⟨A2, c2, A3, c3, rfl, hn2, hn3, hr2, hc2, hm2, hr3, hc3, hm3, hb2⟩
                    obtain ⟨E, hE⟩ : ∃ E : Ev, E = ⟨⟨va, sa, A2, c2⟩, ⟨vb, sb, A3, c3⟩⟩ := ⟨_, rfl⟩
                    have hEok : EvOk w2 w2.heap.size E := by rw [hE]; exact ⟨⟨HOA.out, hr2, by rw [HSA.out]; omega⟩, ⟨HOB.out, hr3, by rw [HSB.out]; omega⟩⟩
                    have hEca : SgCap E.a := by rw [hE]; exact ⟨hc2, hm2⟩
                    have hEcb : SgCap E.b := by rw [hE]; exact ⟨hc3, hm3⟩
                    have hfd : faultF keys E.a.vote E.a.sig E.b.vote E.b.sig before = faultF keys va sa vb sb before := by rw [hE]
                    have hsg : E.a.vote.signer = va.signer := by rw [hE]
                    rw [← hE]
                    have hbw2 := hbw.trans (hb2.mono hbw.size)
                    clear hE hn2 hn3 hr2 hc2 hm2 hr3 hc3 hm3 hb2 hbw
                    have HEok := Lib.hid hEok
                    have HEca := Lib.hid hEca
                    have HEcb := Lib.hid hEcb
                    clear hEok hEca hEcb
                    obtain ⟨f, hf⟩ : ∃ f, f = faultF keys va sa vb sb before := ⟨_, rfl⟩
                    rw [← hf] at hfd
                    rw [← hf] at HCk
                    rw [← hf] at Hfz
                    clear hf
                    have HF : Hid (∀ W, Below w2.heap.size w2 W → Calls Try.prog 63 #[.slice K nk ck, E.val, .int .i64 before] W (IntPost W f)) := fun W hW => by
                      have h := fault_any K ck keys E before W ((HK.out.below (hbw2.trans (hW.mono hbw2.size))).more (hbw2.trans (hW.mono hbw2.size)).size) ((HEok.out.below hW).more hW.size) HEca.out HEcb.out
                      rw [hfd, HNK.out] at h
                      exact h
                    clear hfd
                    go_wp2_with (refine wpList_store_blk rfl 45 (.tmp 11) (.tmp 48) rfl w2.heap.size E.cells rfl rfl 45 zeroEc (Blk.new w2 _ _) (by rw [Ev.size_cells]; rfl) (by rw [Ev.size_cells]; exact size_ev) (fun u hu => one_ev E hu) ?_)
                    intro w3 hV3 hg3 hs3
                    have hb23 : Below w2.heap.size w2 w3 := ((Below.refl _ _).alloc (Nat.le_refl _) _).grown hg3 (by simp) (by rintro j ⟨⟩; omega)
                    have hbw3 := hbw2.trans (hb23.mono hbw2.size)
                    have hl3 := hV3.lt
                    clear hg3 hs3
                    have x3 := hV3.row 46 (Ev.size_cells _)
                    have HF3 := Lib.hid (HF.out w3 hb23)
                    clear HF
                    by_cases hf0 : f = 0
                    · have hzz := Hfz.out hf0
                      obtain ⟨sn, hsn⟩ := Int.eq_ofNat_of_zero_le hzz.1.2.2.1.bounds.2.2.2.2.1.1
                      have hs9 : sn ≤ 9 := by have := hzz.1.2.2.1.bounds.2.2.2.2.1.2; omega
                      have hck := HCk.out
                      rw [if_pos hf0, hsn] at hck
                      have HC2 : Hid (checkL keys k (l.drop 786) (sn : Int) (m ||| 2 ^ sn) = r) := hck
                      clear hck hzz
                      subst hf0
                      rw [hsn] at hsg
                      have HSg := Lib.hid hsg
                      clear hsg hsn
                      by_cases hcc : c = 786
                      · subst hcc
                        obtain rfl : n = 786 := by omega
                        go_wp2_with fail
                        refine HF3.out.mono ?_
                        rintro en w4 ⟨rfl, hb4⟩
                        have hV4 := hV3.below hb4 hV3.lt
                        have hbw4 := hbw3.trans (hb4.mono hbw3.size)
                        have s4 : w4.cell? ⟨w2.heap.size, 4, none⟩ = some (.int .i64 (sn : Int)) := by rw [← HSg.out]; exact (hV4.cell 4).trans E.cell_signer
                        have hsh := shl_one sn hs9
                        clear x3 hV3 hbw3 hb4
                        go_wp2
                        refine ⟨⟨k, l.drop 786, sn, m ||| 2 ^ sn, _, _, _, rfl, or_pow m sn hm10 hs9, rfl, by have := HL.out; simp; omega, by have := HNK2.out; omega, by omega, by omega, by unfold maxLen; omega, or_lt10 m sn hm10 hs9, .inl (by have := HL.out; simp; omega), HC2.out, hbw4⟩, by simp [sliceLen]⟩
                      · have hlt2 : 786 < c := by omega
                        go_wp2_with fail
                        refine HF3.out.mono ?_
                        rintro en w4 ⟨rfl, hb4⟩
                        have hV4 := hV3.below hb4 hV3.lt
                        have hbw4 := hbw3.trans (hb4.mono hbw3.size)
                        have s4 : w4.cell? ⟨w2.heap.size, 4, none⟩ = some (.int .i64 (sn : Int)) := by rw [← HSg.out]; exact (hV4.cell 4).trans E.cell_signer
                        have hsh := shl_one sn hs9
                        clear x3 hV3 hbw3 hb4
                        go_wp2
                        refine ⟨⟨k, l.drop 786, sn, m ||| 2 ^ sn, _, _, _, rfl, or_pow m sn hm10 hs9, rfl, by have := HL.out; simp; omega, by have := HNK2.out; omega, by omega, by omega, by unfold maxLen; omega, or_lt10 m sn hm10 hs9, HR.out.cut786, HC2.out, hbw4⟩, by simp [sliceLen]; omega⟩
                    · have hfb : (f != 0) = true := by simpa using hf0
                      have hfe : (f == 0) = false := by simpa using hf0
                      have hck := HCk.out
                      rw [if_neg hf0] at hck
                      have E2 := Lib.hid hck.symm
                      clear hck hf0
                      by_cases hcc : c = 786
                      all_goals
                        go_wp2_with fail
                        refine HF3.out.mono ?_
                        rintro en w4 ⟨rfl, hb4⟩
                        have hbw4 := hbw3.trans (hb4.mono hbw3.size)
                        go_wp2
                        go_step3
                        exact ⟨rfl, f, ⟨by rw [E2.out], hbw4⟩, _, _, _, _, _, _, _, _, _, _, _, _, _, _, _, _, _, _, _, _, _, _, _, _, _, _, _, _, _, _, _, _, _, _, _, _, _, _, _, _, _, _, _, _, _, _, _, _, _, _, _, _, _, _, _, _, _, _, _, _, _, _, _, _, _, _, _, _, _, _, rfl⟩
                  · have hbad : ∃ n, n ≠ 0 ∧ elemF keys l before = n ∧ ((¬ (voteA l).2 = 0 ∧ (voteA l).2 = n) ∨ ((voteA l).2 = 0 ∧ ¬ (voteB l).2 = 0 ∧ (voteB l).2 = n)) := by
                      unfold elemF
                      by_cases ha : (voteA l).2 = 0
                      · have hbv : ¬ (voteB l).2 = 0 := fun hh => h1 ⟨ha, hh⟩
                        exact ⟨_, hbv, by rw [if_neg (by simpa using ha), if_pos hbv], .inr ⟨ha, hbv, rfl⟩⟩
                      · exact ⟨_, ha, by rw [if_pos ha], .inl ⟨ha, rfl⟩⟩
                    obtain ⟨f, hf0, hfe, hcs⟩ := hbad
                    have hdec := fun W (hW : Below w.heap.size w W) => edec_err_any A c (l.take 786) W ((hrt.below hW).more hW.size) hlt (by omega) (by unfold maxLen; omega) f (by rw [voteA_take, voteB_take]; exact hcs)
                    have HDec := Lib.hid hdec
                    have hck : (if elemF keys l before = 0 then checkL keys k (l.drop 786) (voteA l).1.signer (m ||| 2 ^ (voteA l).1.signer.toNat) else (0, elemF keys l before)) = r := HD.out
                    rw [hfe, if_neg hf0] at hck
                    have E2 := Lib.hid hck.symm
                    have hfb : (f != 0) = true := by simpa using hf0
                    have hfq : (f == 0) = false := by simpa using hf0
                    clear hdec hrt hlt hck hfe hcs HD h1 hf0
                    go_wp2_with fail
                    refine (HDec.out _ hbw).mono ?_
                    rintro en w2 ⟨rfl, hb2⟩
                    have hbw2 := hbw.trans (hb2.mono hbw.size)
                    clear hb2 hbw HDec
                    go_wp2_with (refine wpList_store_blk rfl 45 (.tmp 11) (.tmp 48) rfl w2.heap.size zeroEc rfl rfl 45 zeroEc (Blk.new w2 _ _) rfl size_ev (fun u hu => one_ze hu) ?_)
                    intro w3 hV3 hg3 hs3
                    have hb23 : Below w2.heap.size w2 w3 := ((Below.refl _ _).alloc (Nat.le_refl _) _).grown hg3 (by simp) (by rintro j ⟨⟩; omega)
                    have hbw3 := hbw2.trans (hb23.mono hbw2.size)
                    clear hg3 hs3 hb23 hV3
                    by_cases hcc : c = 786
                    all_goals
                      go_wp2
                      go_step3
                      exact ⟨rfl, f, ⟨by rw [E2.out], hbw3⟩, _, _, _, _, _, _, _, _, _, _, _, _, _, _, _, _, _, _, _, _, _, _, _, _, _, _, _, _, _, _, _, _, _, _, _, _, _, _, _, _, _, _, _, _, _, _, _, _, _, _, _, _, _, _, _, _, _, _, _, _, _, _, _, _, _, _, _, _, _, _, rfl⟩
  · rintro a' w' ⟨why, hR, v0, v1, v2, v3, v4, v5, v6, v7, v8, v10, v11, v12, v13, v14, v15, v16, v17, v18, v19, v20, v21, v22, v23, v24, v25, v26, v27, v28, v29, v30, v31, v32, v33, v34, v35, v36, v37, v38, v39, v40, v41, v42, v43, v44, v45, v46, v47, v48, v49, v50, v51, v52, v53, v54, v55, v56, v57, v58, v59, v60, v61, v62, v63, v64, v65, v66, v67, v68, v69, v70, rfl⟩
    go_wp2
    simp only [Exit.jump]
    go_ret2
    exact hR
end Go.Proofs.Ythmecidpjlaonaa
