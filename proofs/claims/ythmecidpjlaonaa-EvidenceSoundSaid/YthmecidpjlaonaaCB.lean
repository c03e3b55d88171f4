/-
  The law CheckerBuilds returns true and changes nothing that was there. Condition: its list lies in memory below the call.
-/
import Derived.Test.YthmecidpjlaonaaAwake10
namespace Go.Proofs.Ythmecidpjlaonaa
open Go.RowKit

theorem flat_take {α : Type} (f : α → List Value) (m : Nat) : ∀ (l : List α) (_ : ∀ x ∈ l, (f x).length = m) (k : Nat), (l.flatMap f).take (k * m) = (l.take k).flatMap f
  | [], _, k => by simp
  | y :: r, hm, 0 => by simp
  | y :: r, hm, k + 1 => by
    have hy : (f y).length = m := hm y (by simp)
    rw [List.flatMap_cons, List.take_append, hy, List.take_succ_cons, List.flatMap_cons, List.take_of_length_le (by rw [hy, Nat.succ_mul]; omega), show (k + 1) * m - m = k * m from by rw [Nat.succ_mul]; omega,
      flat_take f m r (fun z hz => hm z (by simp [hz])) k]

set_option maxRecDepth 100000 in
set_option maxHeartbeats 2000000 in
theorem builds_small (A : Option Addr) (c : Nat) (es : List Ev) (w : World) (hr : Rd w w.heap.size A (es.flatMap evc)) (hes : EvsOk w w.heap.size es) (hlen : es.length ≤ 30) :
    Calls Try.prog 3 #[.slice A es.length c] w fun e w' => e = .returned (.bool true) ∧ Below w.heap.size w w' := by
  have HR := Lib.hid hr; clear hr
  have Hes := Lib.hid hes; clear hes
  have Hlen := Lib.hid hlen
  have hd : decide (30 < (es.length : Int)) = false := by simp; omega
  clear hlen
  go_enter Try.func3, Try.ntmps3
  go_wp2_with fail
  refine (build_any A c es w HR.out Hes.out (by have := Hlen.out; omega)).mono ?_
  rintro e1 w1 h1
  rcases h1 with ⟨hy, A1, c1, rfl, hown1, hb1⟩ | ⟨hn, rfl, hb1⟩
  · have Hy := Lib.hid hy; clear hy
    go_wp2_with fail
    refine (rbuild_any A c es w1 ((HR.out.below hb1).more hb1.size) (fun e he => ((Hes.out e he).below hb1).more hb1.size) (by have := Hlen.out; omega)).mono ?_
    rintro e2 w2 h2
    rcases h2 with ⟨_, A2, c2, rfl, hown2, hb2⟩ | ⟨hn, rfl, hb2⟩
    · have hown1' := own_below hown1 hb2 (Nat.le_refl _)
      have hlen : ((buildB es es.length)).length = 1 + 786 * es.length := build_len Hy.out.2.2 (Nat.le_refl _)
      have cv1 := conv_str w2 w2.heap.size A1 c1 (buildB es es.length) (Rd.of_own hown1')
      have cv2 := conv_str w2 w2.heap.size A2 c2 (buildB es es.length) (Rd.of_own hown2)
      rw [hlen] at cv1 cv2
      have hbb : Below w.heap.size w w2 := hb1.trans (hb2.mono hb1.size)
      clear hown1 hown2 hown1' hlen hb1 hb2
      generalize (⟨(buildB es es.length).toArray⟩ : ByteArray) = st at cv1 cv2
      go_wp2_with fail
      refine (awake10_any _).mono ?_
      rintro e3 w3 ⟨rfl, hb3⟩
      go_wp2
      go_ret
      exact ⟨rfl, hbb.trans (hb3.mono hbb.size)⟩
    · exact absurd Hy.out hn
  · have Hn := Lib.hid hn; clear hn
    go_wp2_with fail
    refine (rbuild_any A c es w1 ((HR.out.below hb1).more hb1.size) (fun e he => ((Hes.out e he).below hb1).more hb1.size) (by have := Hlen.out; omega)).mono ?_
    rintro e2 w2 h2
    rcases h2 with ⟨hy, _⟩ | ⟨_, rfl, hb2⟩
    · exact absurd hy Hn.out
    · have cv1 := conv_str w2 w2.heap.size none 0 [] (.inl rfl)
      rw [List.length_nil] at cv1
      generalize (⟨([] : List UInt8).toArray⟩ : ByteArray) = st at cv1
      have hbb : Below w.heap.size w w2 := hb1.trans (hb2.mono hb1.size)
      clear hb1 hb2
      go_wp2_with fail
      refine (awake10_any _).mono ?_
      rintro e3 w3 ⟨rfl, hb3⟩
      go_wp2
      go_ret
      exact ⟨rfl, hbb.trans (hb3.mono hbb.size)⟩

set_option maxRecDepth 100000 in
set_option maxHeartbeats 2000000 in
theorem builds_big (A : Option Addr) (c n : Nat) (es : List Ev) (w : World) (hr : Rd w w.heap.size A (es.flatMap evc)) (hes : EvsOk w w.heap.size es) (hlen : es.length = 30) (hn : 30 < n) (hc : n ≤ c) (hm : c ≤ maxLen) :
    Calls Try.prog 3 #[.slice A n c] w fun e w' => e = .returned (.bool true) ∧ Below w.heap.size w w' := by
  have HR := Lib.hid hr; clear hr
  have Hes := Lib.hid hes; clear hes
  have Hlen := Lib.hid hlen; clear hlen
  unfold maxLen at hm
  have hd : decide (30 < (n : Int)) = true := by simp; omega
  have h1 : (30 : Int) ≤ (c : Int) := by omega
  go_enter Try.func3, Try.ntmps3
  go_wp2_with fail
  rw [← Hlen.out]
  refine (build_any A c es w HR.out Hes.out (by have := Hlen.out; omega)).mono ?_
  rintro e1 w1 h1
  rcases h1 with ⟨hy, A1, c1, rfl, hown1, hb1⟩ | ⟨hn, rfl, hb1⟩
  · have Hy := Lib.hid hy; clear hy
    go_wp2_with fail
    refine (rbuild_any A c es w1 ((HR.out.below hb1).more hb1.size) (fun e he => ((Hes.out e he).below hb1).more hb1.size) (by have := Hlen.out; omega)).mono ?_
    rintro e2 w2 h2
    rcases h2 with ⟨_, A2, c2, rfl, hown2, hb2⟩ | ⟨hn, rfl, hb2⟩
    · have hown1' := own_below hown1 hb2 (Nat.le_refl _)
      have hlen : ((buildB es es.length)).length = 1 + 786 * es.length := build_len Hy.out.2.2 (Nat.le_refl _)
      have cv1 := conv_str w2 w2.heap.size A1 c1 (buildB es es.length) (Rd.of_own hown1')
      have cv2 := conv_str w2 w2.heap.size A2 c2 (buildB es es.length) (Rd.of_own hown2)
      rw [hlen] at cv1 cv2
      have hbb : Below w.heap.size w w2 := hb1.trans (hb2.mono hb1.size)
      clear hown1 hown2 hown1' hlen hb1 hb2
      generalize (⟨(buildB es es.length).toArray⟩ : ByteArray) = st at cv1 cv2
      go_wp2_with fail
      refine (awake10_any _).mono ?_
      rintro e3 w3 ⟨rfl, hb3⟩
      go_wp2
      go_ret
      exact ⟨rfl, hbb.trans (hb3.mono hbb.size)⟩
    · exact absurd Hy.out hn
  · have Hn := Lib.hid hn; clear hn
    go_wp2_with fail
    refine (rbuild_any A c es w1 ((HR.out.below hb1).more hb1.size) (fun e he => ((Hes.out e he).below hb1).more hb1.size) (by have := Hlen.out; omega)).mono ?_
    rintro e2 w2 h2
    rcases h2 with ⟨hy, _⟩ | ⟨_, rfl, hb2⟩
    · exact absurd hy Hn.out
    · have cv1 := conv_str w2 w2.heap.size none 0 [] (.inl rfl)
      rw [List.length_nil] at cv1
      generalize (⟨([] : List UInt8).toArray⟩ : ByteArray) = st at cv1
      have hbb : Below w.heap.size w w2 := hb1.trans (hb2.mono hb1.size)
      clear hb1 hb2
      go_wp2_with fail
      refine (awake10_any _).mono ?_
      rintro e3 w3 ⟨rfl, hb3⟩
      go_wp2
      go_ret
      exact ⟨rfl, hbb.trans (hb3.mono hbb.size)⟩

theorem builds_any (A : Option Addr) (c : Nat) (es : List Ev) (w : World) (hr : Rd w w.heap.size A (es.flatMap evc)) (hes : EvsOk w w.heap.size es) (hc : es.length ≤ c) (hm : c ≤ maxLen) :
    Calls Try.prog 3 #[.slice A es.length c] w fun e w' => e = .returned (.bool true) ∧ Below w.heap.size w w' := by
  by_cases h : es.length ≤ 30
  · exact builds_small A c es w hr hes h
  · refine builds_big A c es.length (es.take 30) w ?_ (fun e he => hes e (List.mem_of_mem_take he)) (by simp; omega) (by omega) hc hm
    rw [← flat_take evc 46 es (evc_len es) 30]
    exact hr.take _
end Go.Proofs.Ythmecidpjlaonaa
