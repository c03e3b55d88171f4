/-
  Maps whose keys are structs: a store keeps the entries' births apart; 'range' over such a map hands out its pairs. Condition: the keys' words are told apart by '==' (KeyOk).
  'm[k] |= v' on a map whose keys are structs: the entry is found or laid, then stored into. Condition: the keys' words are told apart by '==' (KeyOk).
  Outcomes and choices in memory; '==' tells outcomes apart; before compares outcomes. No condition.
-/
import Derived.Test.YthmecidpjlaonaaGreatSGMap
import Derived.Maps.RangeWalk
import Derived.Test.YthmecidpjlaonaaGreatSGLess
import Derived.Test.YthmecidpjlaonaaGreatSGAsc
namespace Go.Proofs.YthmecidpjlaonaaGreat
open Go.RowKit
open Go.ChangeMaps (setBlock)

section
variable {κ : Type}
/-- Block m is a map that holds the pairs of l; no two entries were born at once. -/
def MapB (enc : κ → Value) (w : World) (m : Nat) (l : List (κ × Value)) : Prop :=
  ∃ es clock, w.heap[m]? = some (.map es clock) ∧ es.toList.map (fun e => (e.key, e.val)) = l.map (fun p => (enc p.1, p.2)) ∧ (es.toList.map (·.born)).Nodup ∧ ∀ e ∈ es.toList, e.born < clock
/-- Block r is an iterator over map m, which holds the pairs of l; cnt are to come. -/
def Rng (enc : κ → Value) (w : World) (m r : Nat) (l : List (κ × Value)) (cnt : Nat) : Prop :=
  ∃ es clock since c0 seen, w.heap[m]? = some (.map es clock) ∧ w.heap[r]? = some (.mapIter (some m) since seen c0) ∧ es.toList.map (fun e => (e.key, e.val)) = l.map (fun p => (enc p.1, p.2)) ∧ (es.toList.map (·.born)).Nodup ∧ (∀ e ∈ es.toList, e.born < since) ∧ since ≤ c0 ∧ since ≤ clock ∧ cnt = (leftOf es seen).size
/-- How many entries are to come, by the world. -/
def itLeft (m r : Nat) (w : World) : Nat := match w.heap[m]?, w.heap[r]? with
  | some (.map es _), some (.mapIter _ _ seen _) => (leftOf es seen).size
  | _, _ => 0
variable {enc : κ → Value} {w w' : World} {m r cnt : Nat} {l : List (κ × Value)} {P : Program} {kt : TypeId}
theorem MapB.is (h : MapB enc w m l) : MapIs enc w m l := by
  obtain ⟨es, c, h1, h2, _⟩ := h
  exact ⟨es, c, h1, h2⟩
theorem MapB.new (enc : κ → Value) (w : World) : MapB enc (w.alloc (.map #[] 0)) w.heap.size [] := ⟨#[], 0, heap_alloc_new w _, rfl, by simp, by simp⟩
theorem MapB.alloc (h : MapB enc w m l) (o : Obj) : MapB enc (w.alloc o) m l := by
  have hl := h.is.lt
  obtain ⟨es, c, h1, h2⟩ := h
  exact ⟨es, c, (Below.heap_alloc w o m hl).trans h1, h2⟩
theorem MapB.below {B' : Nat} (h : MapB enc w m l) (hb : Below B' w w') (hm : m < B') : MapB enc w' m l := by
  obtain ⟨es, c, h1, h2⟩ := h
  exact ⟨es, c, (hb.block m hm).trans h1, h2⟩
theorem MapB.kept {row : Option Nat} (h : MapB enc w m l) (hg : w.grownBy w' row) (hm : some m ≠ row) : MapB enc w' m l := by
  have hl := h.is.lt
  obtain ⟨es, c, h1, h2⟩ := h
  exact ⟨es, c, (hg.block m hl hm).trans h1, h2⟩
theorem Rng.left_eq (h : Rng enc w m r l cnt) : itLeft m r w = cnt := by
  obtain ⟨es, c, s, c0, seen, h1, h2, _, _, _, _, _, h8⟩ := h
  unfold itLeft
  rw [h1, h2, h8]
theorem Rng.lt (h : Rng enc w m r l cnt) : r < w.heap.size := by
  obtain ⟨es, c, s, c0, seen, h1, h2, _⟩ := h
  exact (Array.getElem?_eq_some_iff.1 h2).1
theorem Rng.mlt (h : Rng enc w m r l cnt) : m < w.heap.size := by
  obtain ⟨es, c, s, c0, seen, h1, h2, _⟩ := h
  exact (Array.getElem?_eq_some_iff.1 h1).1
theorem Rng.kept {row : Option Nat} (h : Rng enc w m r l cnt) (hg : w.grownBy w' row) (hm : some m ≠ row) (hr : some r ≠ row) : Rng enc w' m r l cnt := by
  have hl := h.lt
  have hl2 := h.mlt
  obtain ⟨es, c, s, c0, seen, h1, h2, h3⟩ := h
  exact ⟨es, c, s, c0, seen, (hg.block m hl2 hm).trans h1, (hg.block r hl hr).trans h2, h3⟩
theorem Rng.below (h : Rng enc w m r l cnt) (hb : Below w.heap.size w w') : Rng enc w' m r l cnt := by
  have hl := h.lt
  have hl2 := h.mlt
  obtain ⟨es, c, s, c0, seen, h1, h2, h3⟩ := h
  exact ⟨es, c, s, c0, seen, (hb.block m hl2).trans h1, (hb.block r hl).trans h2, h3⟩
theorem Rng.alloc (h : Rng enc w m r l cnt) (o : Obj) : Rng enc (w.alloc o) m r l cnt := h.below ((Below.refl _ _).alloc (Nat.le_refl _) _)

theorem born_modify (es : Array MapEntry) (j : Nat) (f : MapEntry → MapEntry) (hf : ∀ e, (f e).born = e.born) : (es.modify j f).toList.map (·.born) = es.toList.map (·.born) := by
  apply List.ext_getElem?
  intro i
  simp only [List.getElem?_map, Array.getElem?_toList, Array.getElem?_modify]
  split
  · rw [Option.map_map]
    congr 1
    funext e
    exact hf e
  · rfl
variable [DecidableEq κ]
/-- 'm[k] = v'. -/
theorem MapB.store (h : MapB enc w m l) (K : KeyOk P kt enc) {t e : TypeId} (ht : P.underlying t = some (.map kt e)) (k : κ) (v : Value) :
    ∃ w', (Instr.mapUpdate t (.map (some m)) (enc k) v).run P w = .ok () w' ∧ MapB enc w' m (aput k v l) ∧ w.grownBy w' (some m) ∧ w'.heap.size = w.heap.size := by
  obtain ⟨es, c, h1, h2, h3, h4⟩ := h
  have hlt := (Array.getElem?_eq_some_iff.1 h1).1
  have put : ∀ o : Obj, ({ w with heap := w.heap.setIfInBounds m o } : World).heap[m]? = some o := fun o => by simp [hlt]
  have gr : ∀ o : Obj, w.grownBy { w with heap := w.heap.setIfInBounds m o } (some m) := fun o => ⟨rfl, rfl, rfl, by simp, fun i hi hne => by
    have : m ≠ i := fun e => hne (by rw [e])
    simp [this]⟩
  unfold Instr.mapUpdate
  simp only [Sem.run_bind, run_underlying ht, Result.andThen_ok, MapKept.run_getObj_map h1, K.check, run_findKey K k w es.toList l h2]
  rcases run_asking K k w es.toList l 0 h2 with ⟨_, a2, a3⟩ | ⟨j, u, _, ⟨e', b2, b3, b4⟩, b5, b6, b7⟩
  · rw [a3]
    simp only [Result.andThen_ok]
    refine ⟨_, MapKept.run_setObj_map _ h1, ⟨_, _, put _, ?_, ?_, ?_⟩, gr _, by simp⟩
    · rw [a2]
      simp [h2]
    · rw [Array.toList_push, List.map_append, List.nodup_append]
      refine ⟨h3, by simp, ?_⟩
      intro x hx y hy
      obtain ⟨e1, he1, rfl⟩ := List.mem_map.1 hx
      simp only [List.map_cons, List.map_nil, List.mem_singleton] at hy
      have := h4 e1 he1
      omega
    · intro x hx
      rw [Array.toList_push] at hx
      rcases List.mem_append.1 hx with hx | hx
      · have := h4 x hx
        omega
      · rw [List.mem_singleton.1 hx]
        exact Nat.lt_succ_self c
  · rw [b7]
    simp only [Result.andThen_ok, Sem.run_bind, Nat.zero_add]
    have he : es[j]? = some e' := by rw [← Array.getElem?_toList]; exact b2
    have hs : (Instr.keyThatStays (((es[j]?).map (·.key)).getD (enc k)) (enc k)).run P w = .ok (enc k) w := by
      rw [he]
      unfold Instr.keyThatStays
      simp only [Option.map_some, Option.getD_some, b3, K.bits, if_true]
      rfl
    rw [hs]
    simp only [Result.andThen_ok]
    refine ⟨_, MapKept.run_setObj_map _ h1, ⟨_, _, put _, ?_, ?_, ?_⟩, gr _, by simp⟩
    · rw [b5]
      apply List.ext_getElem?
      intro i
      have h3 := congrArg (fun x => x[i]?) h2
      simp only [List.getElem?_map, Array.getElem?_toList] at h3 ⊢
      rw [Array.getElem?_modify, List.getElem?_set]
      by_cases hij : j = i
      · subst hij
        simp [he, b6]
      · simp [hij, h3]
    · rw [born_modify es j (fun e => { e with key := enc k, val := v }) (fun _ => rfl)]
      exact h3
    · intro x hx
      have hb : x.born ∈ (es.toList.map (·.born)) := by
        rw [← born_modify es j (fun e => { e with key := enc k, val := v }) (fun _ => rfl)]
        exact List.mem_map.2 ⟨x, hx, rfl⟩
      obtain ⟨y, hy, hyb⟩ := List.mem_map.1 hb
      rw [← hyb]
      exact h4 y hy

omit [DecidableEq κ] in
/-- 'range m'. -/
theorem MapB.range (h : MapB enc w m l) {t k e : TypeId} (ht : P.underlying t = some (.map k e)) :
    ∃ o cnt, (Instr.range t (.map (some m))).run P w = .ok (.pointer (some ⟨w.heap.size, 0, none⟩)) (w.alloc o) ∧ Rng enc (w.alloc o) m w.heap.size l cnt := by
  have hl := h.is.lt
  obtain ⟨es, c, h1, h2, h3, h4⟩ := h
  exact ⟨_, _, run_range_map w t k e m es c ht h1, es, c, c, c, #[], (Below.heap_alloc w _ m hl).trans h1, heap_alloc_new w _, h2, h3, h4, Nat.le_refl _, Nat.le_refl _, rfl⟩
omit [DecidableEq κ] in
/-- 'next'. -/
theorem Rng.next (h : Rng enc w m r l cnt) (ty : TypeId) :
    (Instr.next (.pointer (some ⟨r, 0, none⟩)) false ty).run P w = .ok (.tuple #[.bool false]) w ∨
    ∃ k v w' cnt', (k, v) ∈ l ∧ (Instr.next (.pointer (some ⟨r, 0, none⟩)) false ty).run P w = .ok (.tuple #[.bool true, enc k, v]) w' ∧ Rng enc w' m r l cnt' ∧ cnt' < cnt ∧ w.grownBy w' (some r) ∧ w'.heap.size = w.heap.size ∧
      (Instr.entry (.pointer (some ⟨r, 0, none⟩))).run P w' = .ok (.tuple #[enc k, v]) w' := by
  have hrl := h.lt
  obtain ⟨es, c, s, c0, seen, h1, h2, h3, h4, h5, h6, h7, h8⟩ := h
  have hmr : m ≠ r := fun e => by rw [e, h2] at h1; cases h1
  rcases run_next_at (P := P) w ty r m s c0 seen es c h2 h1 h5 h6 with ⟨_, hrun⟩ | ⟨e, he, w1, hal, hrun⟩
  · exact .inl hrun
  · have hmem := mem_left he
    obtain ⟨i, hi⟩ := List.mem_iff_getElem?.1 hmem.1
    have h9 := congrArg (fun x => x[i]?) h3
    simp only [List.getElem?_map, hi, Option.map_some] at h9
    obtain ⟨p, hp, hpe⟩ := Option.map_eq_some_iff.1 h9.symm
    injection hpe with e1 e2
    obtain ⟨w2, hw2⟩ : ∃ w2, w2 = setBlock w1 r (.mapIter (some m) s (seen.push e.born) c) := ⟨_, rfl⟩
    rw [← hw2] at hrun
    have hs1 : w1.heap = w.heap := by rcases hal with rfl | rfl <;> rfl
    have hr2 : w2.heap[r]? = some (.mapIter (some m) s (seen.push e.born) c) := by rw [hw2]; simp [setBlock, hs1, hrl]
    have hm2 : w2.heap[m]? = some (.map es c) := by rw [hw2]; simp [setBlock, hs1, Ne.symm hmr, h1]
    refine .inr ⟨p.1, p.2, w2, _, List.mem_of_getElem? hp, ?_, ⟨es, c, s, c, seen.push e.born, hm2, hr2, h3, h4, h5, h7, h7, rfl⟩, ?_, ?_, ?_, ?_⟩
    · rw [hrun, e1, e2]
    · rw [h8]; exact left_shrinks es seen e he
    · refine ⟨?_, ?_, ?_, ?_, fun i hi hne => ?_⟩
      · rw [hw2]; rcases hal with rfl | rfl <;> rfl
      · rw [hw2]; rcases hal with rfl | rfl <;> rfl
      · rw [hw2]; rcases hal with rfl | rfl <;> rfl
      · rw [hw2]; simp [setBlock, hs1]
      · have : r ≠ i := fun e => hne (by rw [e])
        rw [hw2]; simp [setBlock, hs1, this]
    · rw [hw2]; simp [setBlock, hs1]
    · rw [e1, e2]
      exact run_entry_at w2 r m s seen es c e hr2 hm2 hmem.1 h4
end

section
variable {κ : Type} {enc : κ → Value} {P : Program} (w : World) {ops : Array Oper} {rest : List Oper} {o : Oper} {a : Act} {Q : Exit → Act → World → Prop}
/-- 'range m' at its operation. -/
theorem wpList_range_rng (hg : o.guard = none) (mo : Operand) (t : TypeId) (hop : o.op = Op.range t mo) (k e : TypeId) (ht : P.underlying t = some (.map k e)) (m : Nat) (l : List (κ × Value)) (hm : a.eval mo = .map (some m)) (h : MapB enc w m l)
    (hK : ∀ o' cnt, Rng enc (w.alloc o') m w.heap.size l cnt → wpList P ops Q rest (a.put o.dst (.pointer (some ⟨w.heap.size, 0, none⟩))) (w.alloc o')) : wpList P ops Q (o :: rest) a w := by
  refine wpList_plain hg fun K' hK' => ?_
  obtain ⟨o', cnt, hrun, hr⟩ := h.range ht
  unfold Oper.wp
  simp [execOp, hop, hm, hrun, Result.andThen]
  exact hK' _ _ (hK o' cnt hr)
/-- A step of the range. -/
theorem wpList_next_rng (hg : o.guard = none) (it : Operand) (hop : o.op = Op.next it false) (m r cnt : Nat) (l : List (κ × Value)) (hit : a.eval it = .pointer (some ⟨r, 0, none⟩)) (h : Rng enc w m r l cnt)
    (hDone : wpList P ops Q rest (a.put o.dst (.tuple #[.bool false])) w)
    (hMore : ∀ k v w' cnt', (k, v) ∈ l → Rng enc w' m r l cnt' → cnt' < cnt → w.grownBy w' (some r) → w'.heap.size = w.heap.size → (Instr.entry (.pointer (some ⟨r, 0, none⟩))).run P w' = .ok (.tuple #[enc k, v]) w' →
      wpList P ops Q rest (a.put o.dst (.tuple #[.bool true, enc k, v])) w') : wpList P ops Q (o :: rest) a w := by
  refine wpList_plain hg fun K' hK' => ?_
  unfold Oper.wp
  rcases h.next (P := P) o.type with hrun | ⟨k, v, w', cnt', hmem, hrun, hr, hlt, hgr, hsz, hen⟩
  · simp [execOp, hop, hit, hrun, Result.andThen]
    exact hK' _ _ hDone
  · simp [execOp, hop, hit, hrun, Result.andThen]
    exact hK' _ _ (hMore k v w' cnt' hmem hr hlt hgr hsz hen)
end
end Go.Proofs.YthmecidpjlaonaaGreat
namespace Go.Proofs.YthmecidpjlaonaaGreat
open Go.RowKit

section
variable {κ : Type} {enc : κ → Value} {w w' : World} {m b : Nat} {l : List (κ × Value)} {P : Program} {kt : TypeId} {k : κ}
/-- The map's entry at k was born at b. -/
def MapE (enc : κ → Value) (w : World) (m : Nat) (l : List (κ × Value)) (k : κ) (b : Nat) : Prop :=
  ∃ (es : Array MapEntry) (clock i : Nat) (e : MapEntry), w.heap[m]? = some (.map es clock) ∧ es.toList.map (fun e => (e.key, e.val)) = l.map (fun p => (enc p.1, p.2)) ∧ (es.toList.map (·.born)).Nodup ∧ (∀ e ∈ es.toList, e.born < clock) ∧ es[i]? = some e ∧ e.born = b ∧ (l[i]?).map (·.1) = some k
/-- One of the pairs at k. -/
def Upd [DecidableEq κ] (k : κ) (v : Value) (l l' : List (κ × Value)) : Prop := ∀ p ∈ l', p ∈ l ∨ p = (k, v)
theorem find_born_idx : ∀ (es : List MapEntry) (i : Nat) (e : MapEntry), (es.map (·.born)).Nodup → es[i]? = some e → es.findIdx? (fun x => (x.born : Int) == (e.born : Int)) = some i
  | [], i, e, _, h => by simp at h
  | x :: r, 0, e, _, h => by
    simp at h
    subst h
    simp [List.findIdx?_cons]
  | x :: r, i + 1, e, hn, h => by
    simp only [List.getElem?_cons_succ] at h
    rw [List.map_cons, List.nodup_cons] at hn
    have hne : x.born ≠ e.born := fun he => hn.1 (by rw [he]; exact List.mem_map.2 ⟨e, List.mem_of_getElem? h, rfl⟩)
    have hb : ((x.born : Int) == (e.born : Int)) = false := by simp; omega
    rw [List.findIdx?_cons, hb, find_born_idx r i e hn.2 h]
    rfl
variable [DecidableEq κ]
/-- Where putting at k sets place j, the key there is k. -/
theorem key_at (k : κ) : ∀ (j : Nat) (l : List (κ × Value)), (∀ v, aput k v l = l.set j (k, v)) → j < l.length → (l[j]?).map (·.1) = some k
  | j, [], _, h => by simp at h
  | 0, p :: r, h, _ => by
    by_cases hk : k = p.1
    · simp [hk]
    · have := h undef
      rw [aput, if_neg hk, List.set_cons_zero, List.cons.injEq] at this
      exact absurd (by rw [this.1]) hk
  | j + 1, p :: r, h, hj => by
    by_cases hk : k = p.1
    · have h1 := h (.bool true)
      have h2 := h (.bool false)
      rw [aput, if_pos hk, List.set_cons_succ, List.cons.injEq] at h1 h2
      have := h1.1.trans h2.1.symm
      injection this with _ h3
      injection h3 with h3
      cases h3
    · rw [List.getElem?_cons_succ]
      refine key_at k j r (fun v => ?_) (by simpa using hj)
      have := h v
      rw [aput, if_neg hk, List.set_cons_succ, List.cons.injEq] at this
      exact this.2
/-- 'mapEntry'. -/
theorem MapB.entry (h : MapB enc w m l) (K : KeyOk P kt enc) {t e : TypeId} (ht : P.underlying t = some (.map kt e)) (z : Value) (hz : ∀ w, (zeroValue e).run P w = .ok z w) (k : κ) :
    ∃ (w' : World) (b : Nat) (v : Value) (l' : List (κ × Value)), (Instr.mapEntry t (.map (some m)) (enc k)).run P w = .ok (.tuple #[v, goInt (b : Int)]) w' ∧ MapE enc w' m l' k b ∧ Upd k z l l' ∧ l'.length ≤ l.length + 1 ∧ w.grownBy w' (some m) ∧ w'.heap.size = w.heap.size := by
  obtain ⟨es, c, h1, h2, h3, h4⟩ := h
  have hlt := (Array.getElem?_eq_some_iff.1 h1).1
  have put : ∀ o : Obj, ({ w with heap := w.heap.setIfInBounds m o } : World).heap[m]? = some o := fun o => by simp [hlt]
  have gr : ∀ o : Obj, w.grownBy { w with heap := w.heap.setIfInBounds m o } (some m) := fun o => ⟨rfl, rfl, rfl, by simp, fun i hi hne => by
    have : m ≠ i := fun e => hne (by rw [e])
    simp [this]⟩
  have hlen : es.size = l.length := by
    have := congrArg List.length h2
    simpa using this
  unfold Instr.mapEntry
  simp only [Sem.run_bind, run_underlying ht, Result.andThen_ok, MapKept.run_getObj_map h1, K.check, run_findKey K k w es.toList l h2]
  rcases run_asking K k w es.toList l 0 h2 with ⟨_, a2, a3⟩ | ⟨j, u, b1, ⟨e', b2, b3, b4⟩, b5, b6, b7⟩
  · rw [a3]
    simp only [Result.andThen_ok, Sem.run_bind, hz]
    rw [MapKept.run_setObj_map _ h1]
    refine ⟨_, c, z, l ++ [(k, z)], rfl, ⟨_, _, es.size, ⟨enc k, z, c⟩, put _, ?_, ?_, ?_, by simp, rfl, ?_⟩, ?_, by simp, gr _, by simp⟩
    · simp [h2]
    · rw [Array.toList_push, List.map_append, List.nodup_append]
      refine ⟨h3, by simp, ?_⟩
      intro x hx y hy
      obtain ⟨e1, he1, rfl⟩ := List.mem_map.1 hx
      simp only [List.map_cons, List.map_nil, List.mem_singleton] at hy
      have := h4 e1 he1
      omega
    · intro x hx
      rw [Array.toList_push] at hx
      rcases List.mem_append.1 hx with hx | hx
      · have := h4 x hx
        omega
      · rw [List.mem_singleton.1 hx]
        exact Nat.lt_succ_self c
    · rw [hlen, List.getElem?_append_right (Nat.le_refl _)]
      simp
    · intro p hp
      rcases List.mem_append.1 hp with hp | hp
      · exact .inl hp
      · exact .inr (List.mem_singleton.1 hp)
  · rw [b7]
    simp only [Result.andThen_ok, Sem.run_bind, Nat.zero_add]
    have he : es[j]? = some e' := by rw [← Array.getElem?_toList]; exact b2
    have hs : (Instr.keyThatStays (((es[j]?).map (·.key)).getD (enc k)) (enc k)).run P w = .ok (enc k) w := by
      rw [he]
      unfold Instr.keyThatStays
      simp only [Option.map_some, Option.getD_some, b3, K.bits, if_true]
      rfl
    rw [hs]
    simp only [Result.andThen_ok]
    rw [MapKept.run_setObj_map _ h1]
    have hk : (l[j]?).map (fun p => (enc p.1, p.2)) = some (enc k, u) := by
      have h5 := congrArg (fun x => x[j]?) h2
      simp only [List.getElem?_map, b2, Option.map_some, b3, b4] at h5
      exact h5.symm
    refine ⟨_, e'.born, u, l, ?_, ⟨es.modify j fun e => { e with key := enc k }, c, j, { e' with key := enc k }, put _, ?_, ?_, ?_, by rw [Array.getElem?_modify, if_pos rfl, he]; rfl, rfl, ?_⟩, fun p hp => .inl hp, by omega, gr _, by simp⟩
    · simp [Result.andThen, he]
    · apply List.ext_getElem?
      intro i
      have h6 := congrArg (fun x => x[i]?) h2
      simp only [List.getElem?_map, Array.getElem?_toList] at h6 ⊢
      rw [Array.getElem?_modify]
      by_cases hij : j = i
      · subst hij
        rw [if_pos rfl, hk, he]
        simp [b4]
      · rw [if_neg hij, h6]
    · rw [born_modify es j (fun e => { e with key := enc k }) (fun _ => rfl)]
      exact h3
    · intro x hx
      have hb : x.born ∈ (es.toList.map (·.born)) := by
        rw [← born_modify es j (fun e => { e with key := enc k }) (fun _ => rfl)]
        exact List.mem_map.2 ⟨x, hx, rfl⟩
      obtain ⟨y, hy, hyb⟩ := List.mem_map.1 hb
      rw [← hyb]
      exact h4 y hy
    · rw [key_at k j l (fun v => b5 v) b6]
/-- 'entryStore'. -/
theorem MapE.store (h : MapE enc w m l k b) (t : TypeId) (v : Value) :
    ∃ w' l', (Instr.entryStore t (.map (some m)) (goInt (b : Int)) v).run P w = .ok () w' ∧ MapB enc w' m l' ∧ Upd k v l l' ∧ l'.length = l.length ∧ w.grownBy w' (some m) ∧ w'.heap.size = w.heap.size := by
  obtain ⟨es, c, i, e, h1, h2, h3, h4, h5, rfl, h7⟩ := h
  have hlt := (Array.getElem?_eq_some_iff.1 h1).1
  have put : ∀ o : Obj, ({ w with heap := w.heap.setIfInBounds m o } : World).heap[m]? = some o := fun o => by simp [hlt]
  have gr : ∀ o : Obj, w.grownBy { w with heap := w.heap.setIfInBounds m o } (some m) := fun o => ⟨rfl, rfl, rfl, by simp, fun i hi hne => by
    have : m ≠ i := fun e => hne (by rw [e])
    simp [this]⟩
  obtain ⟨p, hp, hpk⟩ := Option.map_eq_some_iff.1 h7
  have hf : es.findIdx? (fun x => (x.born : Int) == (e.born : Int)) = some i := by
    have := find_born_idx es.toList i e h3 (by rw [Array.getElem?_toList]; exact h5)
    rw [← List.findIdx?_toArray] at this
    simpa using this
  have ha : ∀ W : World, (asInt (goInt (e.born : Int))).run P W = .ok (e.born : Int) W := fun _ => rfl
  unfold Instr.entryStore
  simp only [Sem.run_bind, MapKept.run_getObj_map h1, Result.andThen_ok, ha, hf]
  refine ⟨_, l.set i (k, v), MapKept.run_setObj_map _ h1, ⟨_, _, put _, ?_, ?_, ?_⟩, ?_, by simp, gr _, by simp⟩
  · apply List.ext_getElem?
    intro j
    have h6 := congrArg (fun x => x[j]?) h2
    simp only [List.getElem?_map, Array.getElem?_toList] at h6 ⊢
    rw [Array.getElem?_modify, List.getElem?_set]
    by_cases hij : i = j
    · subst hij
      have hb6 : i < l.length := (List.getElem?_eq_some_iff.1 hp).1
      rw [h5, hp] at h6
      simp only [Option.map_some, Option.some.injEq, Prod.mk.injEq] at h6
      rw [if_pos rfl, if_pos rfl, if_pos hb6, h5]
      simp [h6.1, hpk]
    · simp [hij, h6]
  · rw [born_modify es i (fun e => { e with val := v }) (fun _ => rfl)]
    exact h3
  · intro x hx
    have hb : x.born ∈ (es.toList.map (·.born)) := by
      rw [← born_modify es i (fun e => { e with val := v }) (fun _ => rfl)]
      exact List.mem_map.2 ⟨x, hx, rfl⟩
    obtain ⟨y, hy, hyb⟩ := List.mem_map.1 hb
    rw [← hyb]
    exact h4 y hy
  · intro q hq
    rcases List.mem_or_eq_of_mem_set hq with h | h
    · exact .inl h
    · exact .inr h
omit [DecidableEq κ] in
theorem MapE.kept {row : Option Nat} (h : MapE enc w m l k b) (hg : w.grownBy w' row) (hm : some m ≠ row) : MapE enc w' m l k b := by
  obtain ⟨es, c, i, e, h1, h2⟩ := h
  exact ⟨es, c, i, e, (hg.block m (Array.getElem?_eq_some_iff.1 h1).1 hm).trans h1, h2⟩
end
end Go.Proofs.YthmecidpjlaonaaGreat
namespace Go.Proofs.YthmecidpjlaonaaGreat
open Go.RowKit

structure Oc where
  slot : Int
  round : Int
  choice : Int
  value : Nm
  deriving DecidableEq
abbrev Oc.cells (o : Oc) : Array Value := #[I o.slot, I o.round, I o.choice, B o.value.b0, B o.value.b1, B o.value.b2, B o.value.b3, B o.value.b4, B o.value.b5, B o.value.b6, B o.value.b7]
abbrev Oc.val (o : Oc) : Value := .agg o.cells
abbrev Oc.zero : Oc := ⟨0, 0, 0, Nm.zero⟩
abbrev occ (o : Oc) : List Value := o.cells.toList
theorem occ_len (l : List Oc) : ∀ o ∈ l, (occ o).length = 11 := fun _ _ => rfl
theorem one_oc {u : Value} (o : Oc) (h : u ∈ o.cells.toList) : u.oneCell' = true := by
  simp at h
  rcases h with rfl | rfl | rfl | rfl | rfl | rfl | rfl | rfl | rfl | rfl | rfl <;> rfl
instance : Inhabited Oc := ⟨Oc.zero⟩
theorem info_oc : (Tryz.prog.info? 101).map (fun i => (i.zero, i.size, i.bytes)) = some (some (.agg Oc.zero.cells), 11, 32) := by kernel_rfl
theorem loadOc (p : Value) : Instr.loadAt 101 p = myLoad 101 p := rfl
theorem runOc (b o : Nat) (w : World) : (myLoad 101 (.pointer (some ⟨b, o, none⟩))).run Tryz.prog w = pickRow 101 b o w (rowAt w b o 11) := run_myLoad _ 11 b o w _ Tryz.underlying101 rfl (by kernel_rfl)
theorem Rd.ocRow {w : World} {B' b o : Nat} {l : List Oc} {k : Nat} {v : Oc} (h : Rd w B' (some ⟨b, o, none⟩) (l.flatMap occ)) (hk : l[k]? = some v) : rowAt w b (o + k * 11) 11 = some v.cells := by
  have hpos := (List.getElem?_eq_some_iff.1 hk).1
  rcases h with h | ⟨b', o', e, hb, hc⟩
  · have := flat_length occ 11 l (occ_len l)
    rw [h] at this
    simp at this; omega
  · injection e with e
    injection e with e1 e2
    subst e1; subst e2
    refine rowAt_of (fun j u hu => ?_) rfl
    have hj : j < 11 := by
      have := (List.getElem?_eq_some_iff.1 hu).1
      simpa using this
    rw [Nat.add_assoc]
    refine hc _ u ?_
    rw [flat_get occ 11 l (occ_len l) k j v hk hj, ← hu]
theorem Oc.row_value {w : World} {g t : Nat} (v : Oc) (h : Blk w g t v.cells) : rowAt w g 3 8 = some v.value.cells :=
  Blk.part h 3 v.value.cells (fun j u hu => by
    have hj : j < 8 := (Array.getElem?_eq_some_iff.1 hu).1
    rcases (by omega : j = 0 ∨ j = 1 ∨ j = 2 ∨ j = 3 ∨ j = 4 ∨ j = 5 ∨ j = 6 ∨ j = 7) with rfl | rfl | rfl | rfl | rfl | rfl | rfl | rfl <;> exact hu)

set_option maxRecDepth 100000 in
theorem eqOc (a b : Oc) (w : World) : (Op.equal 101 a.val b.val).run Tryz.prog w = .ok (decide (a = b)) w := by
  show (Op.equalIn 10000 101 a.val b.val).run Tryz.prog w = _
  have u3 := Tryz.underlying3
  have a3 := Tryz.isAgg3
  have z3 := Tryz.sizeOf3
  have a5 := Tryz.isAgg29
  have z5 := Tryz.sizeOf29
  have hS : Tryz.prog.underlying 101 = some (.struct (Tryz.prog.fieldsOf 101)) := by kernel_rfl
  rw [show (10000 : Nat) = 9999 + 1 from rfl, run_equalIn_agg w 9999 101 _ _ hS (by kernel_rfl)]
  have e6 := fun w => eqNm a.value b.value w 9997
  simp only [Program.fieldsOf, Tryz.underlying101]
  go_simp
  rw [ite_last]
  iterate 2 rw [ite_ok w rfl]
  refine ite_ok w ?_
  cases a; cases b; simp
set_option maxRecDepth 100000 in
theorem checkNm2 (b : Bool) (d : Nat) (k : Nm) (w : World) : (Instr.checkKey b (d + 2) 29 k.val).run Tryz.prog w = .ok () w := by
  have a3 := Tryz.isAgg5
  have z3 := Tryz.sizeOf5
  have hi := fun n w => check_byte b d n w
  rw [Instr.checkKey]
  simp only [Sem.run_bind, run_underlying Tryz.underlying29, Result.andThen_ok]
  simp only [Std.Legacy.Range.forIn_eq_forIn_range', Std.Legacy.Range.size, Nat.sub_zero, Nat.add_sub_cancel, Nat.div_one, List.range'_succ, List.range'_zero, List.forIn_cons, List.forIn_nil]
  go_simp
set_option maxRecDepth 100000 in
theorem checkOc (b : Bool) (k : Oc) (w : World) : (Instr.checkKey b 10000 101 k.val).run Tryz.prog w = .ok () w := by
  have a3 := Tryz.isAgg3
  have z3 := Tryz.sizeOf3
  have hi := fun n w => check_int b 9998 n w
  have a5 := Tryz.isAgg29
  have z5 := Tryz.sizeOf29
  have e6 := fun w => checkNm2 b 9997 k.value w
  rw [Instr.checkKey]
  simp only [Sem.run_bind, run_underlying Tryz.underlying101, Result.andThen_ok]
  go_simp
theorem keyOc : KeyOk Tryz.prog 101 Oc.val where
  desc := ⟨_, Tryz.underlying101, fun _ _ => rfl⟩
  check := checkOc
  eq := eqOc
  bits k := bits_agg 9999 _ (by intro v hv; simp at hv; rcases hv with rfl | rfl | rfl | rfl | rfl | rfl | rfl | rfl | rfl | rfl | rfl <;> simp [Instr.sameBits])

attribute [local go_sem ↓] Go.wp_at_zero Go.wp_at_succ loadNm loadVt loadSg loadEv loadOc
attribute [local go_sem] runNm runVt runSg runEv runOc pickRow_some rowAt_drew rowAt_drewN
/-- The order of outcomes. -/
def befO (a b : Oc) : Bool := if a.round ≠ b.round then decide (a.round < b.round) else if a.choice ≠ b.choice then decide (a.choice < b.choice) else lessN a.value b.value
set_option maxRecDepth 100000 in
set_option maxHeartbeats 4000000 in
theorem before_any (a b : Oc) (w : World) : Calls Tryz.prog 113 #[a.val, b.val] w (BoolPost w (befO a b)) := by
  have hA : Blk ((w.alloc (Obj.cells a.cells 101)).alloc (Obj.cells b.cells 101)) w.heap.size 101 a.cells := (Blk.new w _ _).alloc _
  have hB : Blk ((w.alloc (Obj.cells a.cells 101)).alloc (Obj.cells b.cells 101)) (w.heap.size + 1) 101 b.cells := by
    have := Blk.new (w.alloc (Obj.cells a.cells 101)) 101 b.cells
    simpa using this
  obtain ⟨W, hW⟩ : ∃ W, W = (w.alloc (Obj.cells a.cells 101)).alloc (Obj.cells b.cells 101) := ⟨_, rfl⟩
  have hbW : Below w.heap.size w W := by rw [hW]; exact ((Below.refl _ _).alloc (Nat.le_refl _) _).alloc (by simp) _
  rw [← hW] at hA hB
  have x0 := a.row_value hA
  have y0 := b.row_value hB
  have x1 : W.cell? ⟨w.heap.size, 1, none⟩ = some (I a.round) := hA.cell 1
  have x2 : W.cell? ⟨w.heap.size, 2, none⟩ = some (I a.choice) := hA.cell 2
  have y1 : W.cell? ⟨w.heap.size + 1, 1, none⟩ = some (I b.round) := hB.cell 1
  have y2 : W.cell? ⟨w.heap.size + 1, 2, none⟩ = some (I b.choice) := hB.cell 2
  have HW := Lib.hid hW
  obtain ⟨r, hr⟩ : ∃ r, r = befO a b := ⟨_, rfl⟩
  rw [← hr]
  have HL := Lib.hid (fun V => hless_any a.value b.value V)
  clear hA hB hW
  by_cases h1 : a.round = b.round
  · by_cases h2 : a.choice = b.choice
    · have hr' : r = lessN a.value b.value := by rw [hr]; unfold befO; rw [if_neg (fun h => h h1), if_neg (fun h => h h2)]
      have n1 : (a.round != b.round) = false := by rw [h1]; exact bne_self_eq_false _
      have n2 : (a.choice != b.choice) = false := by rw [h2]; exact bne_self_eq_false _
      rw [← hr'] at HL
      clear hr hr' h1 h2
      go_enter Tryz.func113, Tryz.ntmps113
      go_upto_region 1 with fail
      simp only [← HW.out]
      go_wp2_with fail
      refine (HL.out _).mono ?_
      rintro en w2 ⟨rfl, hb2⟩
      go_wp2
      go_ret
      exact ⟨rfl, hbW.trans (hb2.mono hbW.size)⟩
    · have hr' : r = decide (a.choice < b.choice) := by rw [hr]; unfold befO; rw [if_neg (fun h => h h1), if_pos h2]
      have n1 : (a.round != b.round) = false := by rw [h1]; exact bne_self_eq_false _
      have n2 : (a.choice != b.choice) = true := by simpa using h2
      have HR := Lib.hid hr'
      clear hr hr' h1 h2
      go_enter Tryz.func113, Tryz.ntmps113
      go_upto_region 1 with fail
      simp only [← HW.out]
      go_wp2
      go_ret
      exact ⟨by rw [HR.out]; rfl, hbW⟩
  · have hr' : r = decide (a.round < b.round) := by rw [hr]; unfold befO; rw [if_pos h1]
    have n1 : (a.round != b.round) = true := by simpa using h1
    have HR := Lib.hid hr'
    clear hr hr' h1
    go_enter Tryz.func113, Tryz.ntmps113
    go_upto_region 1 with fail
    simp only [← HW.out]
    go_wp2
    go_ret
    exact ⟨by rw [HR.out]; rfl, hbW⟩
end Go.Proofs.YthmecidpjlaonaaGreat
