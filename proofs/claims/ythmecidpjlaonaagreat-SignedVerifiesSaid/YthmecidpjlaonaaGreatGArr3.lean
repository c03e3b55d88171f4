/-
  An array of three signed votes: its literal, and an element of it. No condition but the cells' number.
-/
import Derived.Test.YthmecidpjlaonaaGreatGKey
namespace Go.Proofs.YthmecidpjlaonaaGreat
open Go.RowKit

theorem ext_app3 (X Y Z : Array Value) (n : Nat) (hx : X.size = n) (hy : Y.size = n) (hz : Z.size = n) :
    (X ++ Y ++ Z).extract 0 (0 + n) = X ∧ (X ++ Y ++ Z).extract n (n + n) = Y ∧ (X ++ Y ++ Z).extract (2 * n) (2 * n + n) = Z := by
  refine ⟨?_, ?_, ?_⟩ <;> apply Array.ext_getElem? <;> intro k <;> rw [Array.getElem?_extract] <;> by_cases hk : k < n
  · rw [if_pos (by simp; omega), Nat.zero_add, Array.getElem?_append_left (by simp; omega), Array.getElem?_append_left (by omega)]
  · rw [if_neg (by simp; omega), Array.getElem?_eq_none (by omega)]
  · rw [if_pos (by simp; omega), Array.getElem?_append_left (by simp; omega), Array.getElem?_append_right (by omega), hx, Nat.add_sub_cancel_left]
  · rw [if_neg (by simp; omega), Array.getElem?_eq_none (by omega)]
  · rw [if_pos (by simp; omega), Array.getElem?_append_right (by simp; omega)]
    congr 1
    simp; omega
  · rw [if_neg (by simp; omega), Array.getElem?_eq_none (by omega)]

set_option maxRecDepth 100000 in
theorem run_build3 {o : Oper} {a : Act} (X Y Z : Array Value) (hx : X.size = 23) (hy : Y.size = 23) (hz : Z.size = 23) (r s t : Operand) (ho : o.op = .build 47 #[(0, r), (1, s), (2, t)])
    (hr : a.eval r = .agg X) (hs : a.eval s = .agg Y) (ht : a.eval t = .agg Z) (w : World) : (execOp a.eval o).run Tryz.prog w = .ok (.value (.agg (X ++ Y ++ Z))) w := by
  unfold execOp
  rw [ho]
  simp only [List.map_toArray, List.map_cons, List.map_nil, hr, hs, ht]
  obtain ⟨z, hi, hz69⟩ : ∃ z : Array Value, (Tryz.prog.info? 47).map (fun i => i.zero) = some (some (.agg z)) ∧ z.size = 69 := ⟨zeroSc ++ zeroSc ++ zeroSc, by kernel_rfl, by kernel_rfl⟩
  have hk : (Tryz.prog.info? 34).map (fun i => i.size) = some 23 := by kernel_rfl
  have hf := Great.fill_whole (s := 23) (by omega) [Value.agg X, Value.agg Y, Value.agg Z] z (by
      intro v hv
      rcases List.mem_cons.1 hv with rfl | hv
      · exact hx
      · rcases List.mem_cons.1 hv with rfl | hv
        · exact hy
        · rw [List.mem_singleton.1 hv]; exact hz) (by rw [hz69]; rfl)
  have e : ([Value.agg X, Value.agg Y, Value.agg Z].zipIdx 0).map (fun x => (x.2, x.1)) = [(0, Value.agg X), (1, Value.agg Y), (2, Value.agg Z)] := rfl
  rw [e] at hf
  have hu := run_underlying Tryz.underlying47
  generalize hP : Tryz.prog = P at *
  cases hie : P.info? 47 with
  | none => simp [hie] at hi
  | some ie =>
    cases hke : P.info? 34 with
    | none => simp [hke] at hk
    | some ke =>
      simp only [hie, hke, Option.map_some, Option.some.injEq] at hi hk
      simp [Instr.build, zeroValue, typeInfo, sizeOf, hie, hke, hi, hk, hu, Value.cells, hf]

set_option maxRecDepth 100000 in
theorem run_index3 {o : Oper} {a : Act} (X Y Z : Array Value) (hx : X.size = 23) (hy : Y.size = 23) (hz : Z.size = 23) (i : Nat) (hi : i < 3) (s t : Operand) (ho : o.op = .index 47 s t)
    (hs : a.eval s = .agg (X ++ Y ++ Z)) (ht : a.eval t = .int .i64 (i : Int)) (w : World) : (execOp a.eval o).run Tryz.prog w = .ok (.value (.agg (if i = 0 then X else if i = 1 then Y else Z))) w := by
  obtain ⟨e0, e1, e2⟩ := ext_app3 X Y Z 23 hx hy hz
  unfold execOp
  rw [ho]
  simp only [hs, ht]
  have hu := run_underlying Tryz.underlying47
  have hus := run_underlying Tryz.underlying34
  have hk : (Tryz.prog.info? 34).map (fun i => i.size) = some 23 := by kernel_rfl
  generalize X ++ Y ++ Z = A at *
  generalize hP : Tryz.prog = P at *
  cases hke : P.info? 34 with
  | none => simp [hke] at hk
  | some ke =>
    simp only [hke, Option.map_some, Option.some.injEq] at hk
    obtain rfl | rfl | rfl : i = 0 ∨ i = 1 ∨ i = 2 := by omega
    · simp [Instr.index, asIntOf, part, isAgg, typeInfo, sizeOf, hke, hk, hu, hus]
      simpa using e0
    · simp [Instr.index, asIntOf, part, isAgg, typeInfo, sizeOf, hke, hk, hu, hus]
      simpa using e1
    · simp [Instr.index, asIntOf, part, isAgg, typeInfo, sizeOf, hke, hk, hu, hus]
      simpa using e2
end Go.Proofs.YthmecidpjlaonaaGreat
