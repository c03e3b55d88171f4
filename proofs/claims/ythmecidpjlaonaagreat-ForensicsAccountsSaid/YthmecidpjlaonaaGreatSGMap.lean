/-
  Maps whose keys are structs or arrays: what a look-up finds and what a store leaves, over a list of pairs. Condition: the keys' words are told apart by '==' (KeyOk).
  The keys of the program's map of trees are told apart by '=='. No condition.
-/
import Derived.Test.YthmecidpjlaonaaGreatHMem2
import Derived.MapKept
import Derived.Test.YthmecidpjlaonaaGreatSVote
namespace Go.Proofs.YthmecidpjlaonaaGreat
open Go.RowKit

/-- The keys of type kt are written by enc; '==' tells them apart. -/
structure KeyOk {κ : Type} [DecidableEq κ] (P : Program) (kt : TypeId) (enc : κ → Value) : Prop where
  desc : ∃ d, P.underlying kt = some d ∧ ∀ k k', Instr.sameNow d (enc k) (enc k') = none
  check : ∀ b k w, (Instr.checkKey b 10000 kt (enc k)).run P w = .ok () w
  eq : ∀ k k' w, (Op.equal kt (enc k) (enc k')).run P w = .ok (decide (k = k')) w
  bits : ∀ k, Instr.sameBits 10000 (enc k) (enc k) = true

section
variable {κ : Type}
/-- The first value at key k. -/
def alook [DecidableEq κ] (k : κ) : List (κ × Value) → Option Value
  | [] => none
  | p :: r => if k = p.1 then some p.2 else alook k r
/-- The list with v at key k. -/
def aput [DecidableEq κ] (k : κ) (v : Value) : List (κ × Value) → List (κ × Value)
  | [] => [(k, v)]
  | p :: r => if k = p.1 then (k, v) :: r else p :: aput k v r
theorem alook_aput [DecidableEq κ] (k k' : κ) (v : Value) : ∀ l, alook k' (aput k v l) = if k' = k then some v else alook k' l
  | [] => rfl
  | p :: r => by
    rw [aput]
    split
    · rename_i h
      rw [alook, alook]
      by_cases h' : k' = k
      · rw [if_pos h', if_pos h']
      · rw [if_neg h', if_neg h', if_neg (by rw [← h]; exact h')]
    · rename_i h
      rw [alook, alook, alook_aput k k' v r]
      by_cases h' : k' = p.1
      · rw [if_pos h', if_pos h', if_neg (by rw [h']; exact fun e => h e.symm)]
      · rw [if_neg h', if_neg h']
/-- Block m is a map that holds the pairs of l. -/
def MapIs (enc : κ → Value) (w : World) (m : Nat) (l : List (κ × Value)) : Prop :=
  ∃ es clock, w.heap[m]? = some (.map es clock) ∧ es.toList.map (fun e => (e.key, e.val)) = l.map (fun p => (enc p.1, p.2))
variable {enc : κ → Value} {w w' : World} {m : Nat} {l : List (κ × Value)} {P : Program} {kt : TypeId}
theorem MapIs.lt (h : MapIs enc w m l) : m < w.heap.size := by
  obtain ⟨es, c, h1, _⟩ := h
  exact (Array.getElem?_eq_some_iff.1 h1).1
theorem MapIs.new (enc : κ → Value) (w : World) : MapIs enc (w.alloc (.map #[] 0)) w.heap.size [] := ⟨#[], 0, heap_alloc_new w _, rfl⟩
theorem MapIs.alloc (h : MapIs enc w m l) (o : Obj) : MapIs enc (w.alloc o) m l := by
  have hl := h.lt
  obtain ⟨es, c, h1, h2⟩ := h
  exact ⟨es, c, (Below.heap_alloc w o m hl).trans h1, h2⟩
theorem MapIs.drew (h : MapIs enc w m l) : MapIs enc w.drew m l := h
theorem MapIs.drewN (h : MapIs enc w m l) (n : Nat) : MapIs enc (w.drewN n) m l := h
theorem MapIs.below {B' : Nat} (h : MapIs enc w m l) (hb : Below B' w w') (hm : m < B') : MapIs enc w' m l := by
  obtain ⟨es, c, h1, h2⟩ := h
  exact ⟨es, c, (hb.block m hm).trans h1, h2⟩
theorem MapIs.kept {row : Option Nat} (h : MapIs enc w m l) (hg : w.grownBy w' row) (hm : some m ≠ row) : MapIs enc w' m l := by
  have hl := h.lt
  obtain ⟨es, c, h1, h2⟩ := h
  exact ⟨es, c, (hg.block m hl hm).trans h1, h2⟩

variable [DecidableEq κ]
theorem run_asking (K : KeyOk P kt enc) (k : κ) (w : World) : ∀ (es : List MapEntry) (l : List (κ × Value)) (i : Nat), es.map (fun e => (e.key, e.val)) = l.map (fun p => (enc p.1, p.2)) →
    (alook k l = none ∧ (∀ v, aput k v l = l ++ [(k, v)]) ∧ (Instr.findAsking kt (enc k) es i).run P w = .ok none w) ∨
    ∃ j v, alook k l = some v ∧ (∃ e, es[j]? = some e ∧ e.key = enc k ∧ e.val = v) ∧ (∀ u, aput k u l = l.set j (k, u)) ∧ j < l.length ∧ (Instr.findAsking kt (enc k) es i).run P w = .ok (some (i + j, v)) w
  | [], l, i, h => by
    have : l = [] := by simpa using h.symm
    subst this
    exact .inl ⟨rfl, fun v => rfl, rfl⟩
  | e :: es, [], i, h => by simp at h
  | e :: es, p :: l, i, h => by
    simp only [List.map_cons, List.cons.injEq, Prod.mk.injEq] at h
    obtain ⟨⟨h1, h2⟩, h3⟩ := h
    by_cases hk : k = p.1
    · refine .inr ⟨0, p.2, by rw [alook, if_pos hk], ⟨e, rfl, by rw [h1, hk], h2⟩, fun u => by rw [aput, if_pos hk]; rfl, by simp, ?_⟩
      rw [Instr.findAsking, Sem.run_bind, h1, K.eq, Result.andThen_ok, decide_eq_true hk, if_pos rfl, h2]
      rfl
    · rcases run_asking K k w es l (i + 1) h3 with ⟨a1, a2, a3⟩ | ⟨j, v, b1, ⟨e', b2, b3, b4⟩, b5, b6, b7⟩
      · refine .inl ⟨by rw [alook, if_neg hk]; exact a1, fun v => by rw [aput, if_neg hk, a2]; rfl, ?_⟩
        rw [Instr.findAsking, Sem.run_bind, h1, K.eq, Result.andThen_ok, decide_eq_false hk, if_neg (by simp)]
        exact a3
      · refine .inr ⟨j + 1, v, by rw [alook, if_neg hk]; exact b1, ⟨e', by simpa using b2, b3, b4⟩, fun u => by rw [aput, if_neg hk, b5]; rfl, by simp; omega, ?_⟩
        rw [Instr.findAsking, Sem.run_bind, h1, K.eq, Result.andThen_ok, decide_eq_false hk, if_neg (by simp)]
        rw [b7, show i + 1 + j = i + (j + 1) from by omega]

theorem run_findKey (K : KeyOk P kt enc) (k : κ) (w : World) (es : List MapEntry) (l : List (κ × Value)) (h : es.map (fun e => (e.key, e.val)) = l.map (fun p => (enc p.1, p.2))) :
    (Instr.findKey kt (enc k) es).run P w = (Instr.findAsking kt (enc k) es 0).run P w := by
  obtain ⟨d, hd, hn⟩ := K.desc
  rw [Instr.findKey, Sem.run_bind, run_underlying hd, Result.andThen_ok]
  rcases es with _ | ⟨e, es⟩
  · rfl
  · rcases l with _ | ⟨p, l⟩
    · simp at h
    · simp only [List.map_cons, List.cons.injEq, Prod.mk.injEq] at h
      rw [Instr.findNow, h.1.1, hn]

/-- 'v, ok := m[k]' and 'm[k]'. -/
theorem MapIs.look (h : MapIs enc w m l) (K : KeyOk P kt enc) {t e : TypeId} (ht : P.underlying t = some (.map kt e)) (z : Value) (hz : (zeroValue e).run P w = .ok z w) (k : κ) (ok : Bool) :
    (Instr.lookup t (.map (some m)) (enc k) ok).run P w = .ok (if ok then .tuple #[(alook k l).getD z, .bool (alook k l).isSome] else (alook k l).getD z) w := by
  obtain ⟨es, c, h1, h2⟩ := h
  unfold Instr.lookup
  simp only [Sem.run_bind, run_underlying ht, Result.andThen_ok, MapKept.run_getObj_map h1, K.check, Sem.run_pure, run_findKey K k w es.toList l h2]
  rcases run_asking K k w es.toList l 0 h2 with ⟨a1, _, a3⟩ | ⟨j, v, b1, _, _, _, b7⟩
  · rw [a3, a1]
    simp only [Result.andThen_ok, Sem.run_bind, hz, Sem.run_pure]
    cases ok <;> rfl
  · rw [b7, b1]
    simp only [Result.andThen_ok]
    cases ok <;> rfl

/-- 'm[k] = v'. -/
theorem MapIs.store (h : MapIs enc w m l) (K : KeyOk P kt enc) {t e : TypeId} (ht : P.underlying t = some (.map kt e)) (k : κ) (v : Value) :
    ∃ w', (Instr.mapUpdate t (.map (some m)) (enc k) v).run P w = .ok () w' ∧ MapIs enc w' m (aput k v l) ∧ w.grownBy w' (some m) ∧ w'.heap.size = w.heap.size := by
  obtain ⟨es, c, h1, h2⟩ := h
  have hlt := (Array.getElem?_eq_some_iff.1 h1).1
  have put : ∀ o : Obj, ({ w with heap := w.heap.setIfInBounds m o } : World).heap[m]? = some o := fun o => by simp [hlt]
  have gr : ∀ o : Obj, w.grownBy { w with heap := w.heap.setIfInBounds m o } (some m) := fun o => ⟨rfl, rfl, rfl, by simp, fun i hi hne => by
    have : m ≠ i := fun e => hne (by rw [e])
    simp [this]⟩
  unfold Instr.mapUpdate
  simp only [Sem.run_bind, run_underlying ht, Result.andThen_ok, MapKept.run_getObj_map h1, K.check, run_findKey K k w es.toList l h2]
  rcases run_asking K k w es.toList l 0 h2 with ⟨_, a2, a3⟩ | ⟨j, u, _, ⟨e', b2, b3, b4⟩, b5, b6, b7⟩
  · rw [a3]
    simp only [Result.andThen_ok]
    refine ⟨_, MapKept.run_setObj_map _ h1, ⟨_, _, put _, ?_⟩, gr _, by simp⟩
    rw [a2]
    simp [h2]
  · rw [b7]
    simp only [Result.andThen_ok, Sem.run_bind, Nat.zero_add]
    have he : es[j]? = some e' := by rw [← Array.getElem?_toList]; exact b2
    have hs : (Instr.keyThatStays (((es[j]?).map (·.key)).getD (enc k)) (enc k)).run P w = .ok (enc k) w := by
      rw [he]
      unfold Instr.keyThatStays
      simp only [Option.map_some, Option.getD_some, b3, K.bits, if_true]
      rfl
    rw [hs]
    simp only [Result.andThen_ok]
    refine ⟨_, MapKept.run_setObj_map _ h1, ⟨_, _, put _, ?_⟩, gr _, by simp⟩
    rw [b5]
    apply List.ext_getElem?
    intro i
    have h3 := congrArg (fun x => x[i]?) h2
    simp only [List.getElem?_map, Array.getElem?_toList] at h3 ⊢
    rw [Array.getElem?_modify, List.getElem?_set]
    by_cases hij : j = i
    · subst hij
      simp [he, b6]
    · simp [hij, h3]
end
end Go.Proofs.YthmecidpjlaonaaGreat
namespace Go.Proofs.YthmecidpjlaonaaGreat
open Go.RowKit

theorem check_int (b : Bool) (d : Nat) (n : Int) (w : World) : (Instr.checkKey b (d + 1) 3 (.int .i64 n)).run Tryz.prog w = .ok () w := by
  rw [Instr.checkKey, Sem.run_bind, run_underlying Tryz.underlying3]
  rfl
theorem check_byte (b : Bool) (d : Nat) (n : Int) (w : World) : (Instr.checkKey b (d + 1) 5 (.int .u8 n)).run Tryz.prog w = .ok () w := by
  rw [Instr.checkKey, Sem.run_bind, run_underlying Tryz.underlying5]
  rfl
theorem bits_agg (n : Nat) (cs : Array Value) (h : ∀ v ∈ cs.toList, Instr.sameBits n v v = true) : Instr.sameBits (n + 1) (.agg cs) (.agg cs) = true := by
  rw [Instr.sameBits, Bool.and_eq_true]
  refine ⟨by simp, ?_⟩
  rw [List.all_eq_true]
  intro p hp
  obtain ⟨i, hi⟩ := List.mem_iff_getElem?.1 hp
  rw [List.getElem?_zip_eq_some] at hi
  have e : p.1 = p.2 := by
    have := hi.1.symm.trans hi.2
    exact Option.some.inj this
  obtain ⟨p1, p2⟩ := p
  simp only at e
  subst e
  exact h p1 (List.mem_of_getElem? hi.1)
end Go.Proofs.YthmecidpjlaonaaGreat
