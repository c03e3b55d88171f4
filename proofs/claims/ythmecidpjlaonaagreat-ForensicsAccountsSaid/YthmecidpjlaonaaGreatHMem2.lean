/-
  append onto a row of the call's own, at a step of a region that draws its order. No condition.
  A whole struct stored into a block that is known; rows of structs. No condition.
-/
import Derived.Test.YthmecidpjlaonaaGreatSMem
import Derived.Deep.RegionHeld3
import Derived.Deep.DrawnRows
namespace Go.Proofs.YthmecidpjlaonaaGreat
open Go.RowKit

theorem wp_app {P : Program} {w : World} {o : Oper} {a : Act} {K : Act → World → Prop} {Q : Exit → Act → World → Prop} (s x : Operand) (t : TypeId)
    (ho : o.op = .call { callee := .builtin .append, args := #[s, x], argTypes := #[t, t] })
    (base : Nat) (e : TypeId) (z : Value) (size bytes : Nat) (ht : P.underlying t = some (.slice e)) (hi : (P.info? e).map (fun i => (i.zero, i.size, i.bytes)) = some (some z, size, bytes)) (hzs : z.cells.size = size) (hsz : 0 < size)
    (v : Value) (n : Nat) (xs : List Value) (hs : a.eval s = v) (hown : w.ownsRow base e size v n xs)
    (B : Nat) (A : Option Addr) (m c : Nat) (news : List Value) (hx : a.eval x = .slice A m c) (hl : news.length = m * size) (hr : Rd w B A news) (h1 : ∀ u ∈ news, u.oneCell' = true)
    (hbytes : (n + m) * bytes ≤ 140737488355328) (h63 : n + m ≤ maxLen) (hbase : base ≤ w.heap.size)
    (h : ∀ v' w', w'.ownsRow base e size v' (n + m) (xs ++ news) → w.grownBy w' v.ownBlock → (v'.ownBlock = v.ownBlock ∨ v'.ownBlock = some w.heap.size) → K (a.put o.dst v') w') :
    o.wp P a w K Q := by
  obtain ⟨i, hi', hz, hsize, hby⟩ := info_parts hi
  obtain ⟨v', w', hr, h2, h3, h5⟩ := run_app (P := P) w base t o.type e i z size bytes ht hi' hz hsize hby hzs hsz v n xs hown B A m c news hl hr h1 hbytes h63 hbase
  unfold Oper.wp execOp
  simp only [ho, resolve, invoke, builtin, Sem.run_bind, Sem.run_pure, Result.andThen_ok, List.map_toArray, List.map_cons, List.map_nil, hs, hx, hr]
  exact h v' w' h2 h3 h5

theorem own_base {w : World} {base base' e size n : Nat} {v : Value} {xs : List Value} (h : w.ownsRow base e size v n xs) (hb : base' ≤ base) : w.ownsRow base' e size v n xs := by
  refine ⟨h.1, ?_⟩
  rcases h.2 with h | ⟨g, cap, cur, hv, hg, r⟩
  · exact .inl h
  · exact .inr ⟨g, cap, cur, hv, by omega, r⟩
theorem own_below {w w' : World} {base B e size n : Nat} {v : Value} {xs : List Value} (h : w.ownsRow base e size v n xs) (hb : Below B w w') (hB : w.heap.size ≤ B) : w'.ownsRow base e size v n xs := by
  refine ⟨h.1, ?_⟩
  rcases h.2 with h | ⟨g, cap, cur, hv, hg, hh, r⟩
  · exact .inl h
  · exact .inr ⟨g, cap, cur, hv, hg, (hb.block g (by have := lt_of_block hh; omega)).trans hh, r⟩
end Go.Proofs.YthmecidpjlaonaaGreat
namespace Go.Proofs.YthmecidpjlaonaaGreat
open Go.RowKit

theorem setCells_frame (g : Nat) (t : TypeId) : ∀ (vs : List Value) (o : Nat) (w : World) (cur : Array Value), Blk w g t cur →
    (∃ cur', Blk (w.setCells g o vs) g t cur' ∧ cur'.size = cur.size) ∧ w.grownBy (w.setCells g o vs) (some g) ∧ (w.setCells g o vs).heap.size = w.heap.size
  | [], _, w, cur, h => ⟨⟨cur, h, rfl⟩, one_refl _ _, rfl⟩
  | v :: r, o, w, cur, h => by
    rw [World.setCells]
    obtain ⟨⟨cur', h1, h2⟩, h3, h4⟩ := setCells_frame g t r (o + 1) (w.setCell ⟨g, o, none⟩ v) _ (h.put o v)
    refine ⟨⟨cur', h1, by simpa using h2⟩, ?_, by rw [h4]; simp [World.setCell]⟩
    have h5 : w.grownBy (w.setCell ⟨g, o, none⟩ v) (some g) := one_put (one_refl w g) rfl v
    exact h5.trans h3

/-- A whole struct or array stored into a block of its own size. -/
theorem wpList_store_blk {P : Program} {ops : Array Oper} {rest : List Oper} {op : Oper} {a : Act} {w : World} {Q : Exit → Act → World → Prop} (hgd : op.guard = none) (ty : TypeId) (x y : Operand) (ho : op.op = .store ty x y)
    (g : Nat) (cs : Array Value) (hx : a.eval x = .pointer (some ⟨g, 0, none⟩)) (hy : a.eval y = .agg cs)
    (t : TypeId) (old : Array Value) (hB : Blk w g t old) (hsz : old.size = cs.size) (hi : (P.info? ty).map (·.size) = some cs.size) (h1 : ∀ u ∈ cs.toList, u.oneCell' = true)
    (h : ∀ w', Blk w' g t cs → w.grownBy w' (some g) → w'.heap.size = w.heap.size → wpList P ops Q rest (a.put op.dst undef) w') : wpList P ops Q (op :: rest) a w := by
  have hth : w.there g 0 cs.size := fun j hj => ⟨by
    rw [Nat.zero_add, hB.cell]
    rw [Array.getElem?_eq_getElem (by omega)]; rfl, hB.frozen _⟩
  refine wpList_store_mid hgd ty x y ho g 0 cs hx hy hth hi (Array.all_eq_true_iff_forall_mem.2 fun v hv => h1 v (by simpa using hv)) ?_
  obtain ⟨⟨cur', h2, h3⟩, h4, h5⟩ := setCells_frame g t cs.toList 0 w old hB
  have e : cur' = cs := by
    apply Array.ext (by omega)
    intro i hi1 hi2
    have := World.rangeAt_setCells_same w g 0 cs.toList (by simpa using hth) i cs[i] (by simp [hi2])
    rw [Nat.zero_add, h2.cell, Array.getElem?_eq_getElem hi1] at this
    exact Option.some.inj this
  subst e
  exact h _ h2 h4 h5

/-- Cell j of element k of a row of structs. -/
theorem flat_get {α : Type} (f : α → List Value) (m : Nat) : ∀ (l : List α) (_ : ∀ x ∈ l, (f x).length = m) (k j : Nat) (x : α), l[k]? = some x → j < m → (l.flatMap f)[k * m + j]? = (f x)[j]?
  | [], _, k, j, x, h, _ => by simp at h
  | y :: r, hm, 0, j, x, h, hj => by
    simp at h; subst h
    rw [List.flatMap_cons, Nat.zero_mul, Nat.zero_add, List.getElem?_append_left (by rw [hm y (by simp)]; exact hj)]
  | y :: r, hm, k + 1, j, x, h, hj => by
    have hy : (f y).length = m := hm y (by simp)
    rw [List.flatMap_cons, List.getElem?_append_right (by rw [hy, Nat.succ_mul]; omega), hy, show (k + 1) * m + j - m = k * m + j from by rw [Nat.succ_mul]; omega]
    exact flat_get f m r (fun z hz => hm z (by simp [hz])) k j x (by simpa using h) hj
theorem flat_length {α : Type} (f : α → List Value) (m : Nat) : ∀ (l : List α) (_ : ∀ x ∈ l, (f x).length = m), (l.flatMap f).length = l.length * m
  | [], _ => by simp
  | y :: r, hm => by
    rw [List.flatMap_cons, List.length_append, flat_length f m r (fun z hz => hm z (by simp [hz])), hm y (by simp), List.length_cons, Nat.succ_mul, Nat.add_comm]
end Go.Proofs.YthmecidpjlaonaaGreat
