/-
  The sanity check of layer 10's statements returns true and changes nothing. No condition.
-/
import Derived.Test.YthmecidpjlaonaaBuildR
import Derived.Laws.IdiomStrings
import Derived.Laws.BytesArg
import Derived.WalkMore
import Derived.ScopeJumps
namespace Go.Proofs.Ythmecidpjlaonaa
open Go.RowKit

/-- string(b) of bytes that are read. -/
theorem conv_str (w : World) (B' : Nat) (A : Option Addr) (c : Nat) (l : List UInt8) (hr : Rd w B' A (l.map B)) :
    (convert 23 9 (.slice A l.length c)).run Try.prog w = .ok (.string ⟨l.toArray⟩) w := by
  rcases A with _ | a
  · have hl : l = [] := by
      rcases hr with h | ⟨b, o, h, _⟩
      · simpa using h
      · cases h
    subst hl
    exact run_convert_bytes_nil w 23 5 Try.underlying23 Try.underlying5 _ _ 9 Try.underlying9
  · refine run_convert_bytes_back w 23 9 5 a c l Try.underlying23 Try.underlying5 Try.underlying9 (fun j hj => ?_)
    rcases hr with h | ⟨b, o, h, _, hc⟩
    · simp at h; subst h; simp at hj
    · injection h with h; subst h
      rw [Addr.add_mid]
      exact hc j _ (by simp [hj])

/-- Where Check's refusals jump to: the frame holds the error in slot 9. -/
def CheckJ (R : Ending → World → Prop) (a : Act) (w : World) : Prop :=
  ∃ why : Int, R (.returned (.tuple #[.int .i64 0, .int .i64 why])) w ∧ ∃ u0 u1 u2 u3 u4 u5 u6 u7 u8 u10 u11 u12 u13 u14 u15 u16 u17 u18 u19 u20 u21 u22 u23 u24 u25 u26 u27 u28 u29 u30 u31 u32 u33 u34 u35 u36 u37 u38 u39 u40 u41 u42 u43 u44 u45 u46 u47 u48 u49 u50 u51 u52 u53 u54 u55 u56 u57 u58 u59 u60 u61 u62 u63 u64 u65 u66 u67 u68 u69 u70 : Value, a = { tmps := #[u0, u1, u2, u3, u4, u5, u6, u7, u8, .int .i64 why, u10, u11, u12, u13, u14, u15, u16, u17, u18, u19, u20, u21, u22, u23, u24, u25, u26, u27, u28, u29, u30, u31, u32, u33, u34, u35, u36, u37, u38, u39, u40, u41, u42, u43, u44, u45, u46, u47, u48, u49, u50, u51, u52, u53, u54, u55, u56, u57, u58, u59, u60, u61, u62, u63, u64, u65, u66, u67, u68, u69, u70], defers := [] }
set_option maxRecDepth 100000 in
set_option maxHeartbeats 1000000 in
theorem check_nil (w : World) : Calls Try.prog 22 #[.slice none 0 0, .slice none 0 0] w fun e w' => e = .returned (.tuple #[.int .i64 0, .int .i64 2]) ∧ w' = w := by
  go_enter Try.func22, Try.ntmps22
  go_wp2
  refine wp_scope_jumps 0 (CheckJ fun e w' => e = .returned (.tuple #[.int .i64 0, .int .i64 2]) ∧ w' = w) (fun _ _ => 0) rfl ?_ ?_
  · go_wp2
    go_step3
    refine ⟨rfl, 2, ⟨rfl, rfl⟩, _, _, _, _, _, _, _, _, _, _, _, _, _, _, _, _, _, _, _, _, _, _, _, _, _, _, _, _, _, _, _, _, _, _, _, _, _, _, _, _, _, _, _, _, _, _, _, _, _, _, _, _, _, _, _, _, _, _, _, _, _, _, _, _, _, _, _, _, _, _, rfl⟩
  · rintro a' w' ⟨why, hR, u0, u1, u2, u3, u4, u5, u6, u7, u8, u10, u11, u12, u13, u14, u15, u16, u17, u18, u19, u20, u21, u22, u23, u24, u25, u26, u27, u28, u29, u30, u31, u32, u33, u34, u35, u36, u37, u38, u39, u40, u41, u42, u43, u44, u45, u46, u47, u48, u49, u50, u51, u52, u53, u54, u55, u56, u57, u58, u59, u60, u61, u62, u63, u64, u65, u66, u67, u68, u69, u70, rfl⟩
    go_wp2
    simp only [Exit.jump]
    go_ret2
    exact hR
set_option maxRecDepth 100000 in
set_option maxHeartbeats 1000000 in
theorem check_zero (b : Nat) (w : World) (hB : Blk w b 5 #[.int .u8 0]) : Calls Try.prog 22 #[.slice none 0 0, .slice (some ⟨b, 0, none⟩) 1 1] w fun e w' => e = .returned (.tuple #[.int .i64 0, .int .i64 4]) ∧ w' = w := by
  have c0 : w.cell? ⟨b, 0, none⟩ = some (.int .u8 0) := hB.cell 0
  go_enter Try.func22, Try.ntmps22
  go_wp2
  refine wp_scope_jumps 0 (CheckJ fun e w' => e = .returned (.tuple #[.int .i64 0, .int .i64 4]) ∧ w' = w) (fun _ _ => 0) rfl ?_ ?_
  · go_wp2
    go_step3
    refine ⟨rfl, 4, ⟨rfl, rfl⟩, _, _, _, _, _, _, _, _, _, _, _, _, _, _, _, _, _, _, _, _, _, _, _, _, _, _, _, _, _, _, _, _, _, _, _, _, _, _, _, _, _, _, _, _, _, _, _, _, _, _, _, _, _, _, _, _, _, _, _, _, _, _, _, _, _, _, _, _, _, _, rfl⟩
  · rintro a' w' ⟨why, hR, u0, u1, u2, u3, u4, u5, u6, u7, u8, u10, u11, u12, u13, u14, u15, u16, u17, u18, u19, u20, u21, u22, u23, u24, u25, u26, u27, u28, u29, u30, u31, u32, u33, u34, u35, u36, u37, u38, u39, u40, u41, u42, u43, u44, u45, u46, u47, u48, u49, u50, u51, u52, u53, u54, u55, u56, u57, u58, u59, u60, u61, u62, u63, u64, u65, u66, u67, u68, u69, u70, rfl⟩
    go_wp2
    simp only [Exit.jump]
    go_ret2
    exact hR
set_option maxRecDepth 100000 in
set_option maxHeartbeats 1000000 in
theorem awake10_any (w : World) : Calls Try.prog 21 #[] w fun e w' => e = .returned (.bool true) ∧ Below w.heap.size w w' := by
  go_enter Try.func21, Try.ntmps21
  go_wp2_with fail
  refine (check_nil _).mono ?_
  rintro e w1 ⟨rfl, rfl⟩
  go_wp2_with fail
  refine (check_zero _ _ (Blk.new _ _ _)).mono ?_
  rintro e w2 ⟨rfl, rfl⟩
  go_wp2_with fail
  refine (build_any none 0 [] _ Rd.nil (fun e he => by simp at he) (by simp)).mono ?_
  rintro e w3 (⟨⟨h, _⟩, _⟩ | ⟨_, rfl, hb⟩)
  · exact absurd rfl h
  go_wp2
  go_ret
  exact ⟨rfl, ((Below.refl _ _).alloc (Nat.le_refl _) _).trans (hb.mono (by simp))⟩
end Go.Proofs.Ythmecidpjlaonaa
