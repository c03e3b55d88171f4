/-
  The reference's verify returns whether a signed vote verifies with the key of its signer, and changes nothing that was there. Condition: keys and vote lie in memory below the call.
  Rows of signed votes: reading one, and the loop of the reference's Verified. Condition: keys and list lie in memory below the call.
  Plain mathematics of the reference's Canonical: what it returns for a list of votes and signatures (canF), and how long that is. No condition.
  The reference's Canonical, its first loop: whether the list ascends. (Under way.) Condition: the list lies in memory below the call.
  Memory for the reference's Canonical: what it returns (CanPost), where its loops stand, a slice literal of one struct in a drawn region. No condition.
-/
import Derived.Test.YthmecidpjlaonaaGreatSGDefs
import Derived.Test.YthmecidpjlaonaaGreatHRVer
import Derived.Great.BuildSlice
import Derived.Deep.DeepCutAuto
namespace Go.Proofs.YthmecidpjlaonaaGreat
open Go.RowKit
attribute [local go_sem ↓] Go.wp_at_zero Go.wp_at_succ loadNm loadVt loadSg loadEv
attribute [local go_sem] runNm runVt runSg runEv pickRow_some rowAt_drew rowAt_drewN
/-- A signed vote verifies with the key of its signer. -/
def verK (keys : List Nm) (v : Vt) (sig : List UInt8) : Bool := decide (0 ≤ v.signer) && (decide (v.signer < (keys.length : Int)) && verS (keys.getD v.signer.toNat Nm.zero) v sig)
end Go.Proofs.YthmecidpjlaonaaGreat
namespace Go.Proofs.YthmecidpjlaonaaGreat
open Go.RowKit
attribute [local go_sem ↓] Go.wp_at_zero Go.wp_at_succ loadNm loadVt loadSg loadEv
attribute [local go_sem] runNm runVt runSg runEv pickRow_some rowAt_drew rowAt_drewN
/-- A slice literal of one struct. -/
theorem wpList_build1 {P : Program} {ops : Array Oper} {rest : List Oper} {o : Oper} {a : Act} {w : World} {Q : Exit → Act → World → Prop} (hg : o.guard = none) (t e : TypeId) (x : Operand) (ho : o.op = .buildSlice t 1 #[(0, x)])
    (cs : Array Value) (hx : a.eval x = .agg cs) (hu : P.underlying t = some (.slice e)) (hi : (P.info? e).map (fun i => (i.zero.isSome, i.size)) = some (true, cs.size)) (hpos : 0 < cs.size) (hsm : cs.size ≤ 1000)
    (h : wpList P ops Q rest (a.put o.dst (.slice (some ⟨w.heap.size, 0, none⟩) 1 1)) (w.alloc (.cells cs e))) : wpList P ops Q (o :: rest) a w := by
  cases hie : P.info? e with
  | none => simp [hie] at hi
  | some ie =>
    simp only [hie, Option.map_some, Option.some.injEq, Prod.mk.injEq] at hi
    obtain ⟨hz, hsz⟩ := hi
    obtain ⟨z, hzz⟩ := Option.isSome_iff_exists.1 hz
    refine wpList_buildSlice hg t e 1 #[(0, x)] ho cs ie z hu hie hzz (by rw [hsz]; omega) (by rw [hsz]; omega) ?_ h
    have hf := Great.fill_whole (s := ie.size) (by rw [hsz]; exact hpos) [Value.agg cs] ((Array.range (1 * ie.size)).map (z.cells[· % z.cells.size]!)) (by intro v hv; rw [List.mem_singleton.1 hv, hsz]; rfl) (by simp)
    have ev : (#[(0, x)].map fun ((i, x) : Nat × Operand) => (i, a.eval x)).toList = ([Value.agg cs].zipIdx 0).map fun x => (x.2, x.1) := by simp [hx]
    rw [ev, hf]
    simp [Value.cells]
theorem info_signed : (Tryz.prog.info? 34).map (fun i => (i.zero, i.size, i.bytes)) = some (some (.agg zeroSc), 23, 88) := by kernel_rfl
abbrev sgc (s : Sg) : List Value := s.cells.toList
theorem sgc_len (l : List Sg) : ∀ s ∈ l, (sgc s).length = 23 := fun s _ => by rw [Array.length_toList]; exact s.size_cells
/-- Signed vote k of a row that is read. -/
theorem Rd.sgRow {w : World} {B' b o : Nat} {l : List Sg} {k : Nat} {s : Sg} (h : Rd w B' (some ⟨b, o, none⟩) (l.flatMap sgc)) (hk : l[k]? = some s) : rowAt w b (o + k * 23) 23 = some s.cells := by
  have hpos := (List.getElem?_eq_some_iff.1 hk).1
  rcases h with h | ⟨b', o', e, hb, hc⟩
  · have := flat_length sgc 23 l (sgc_len l)
    rw [h] at this
    simp at this; omega
  · injection e with e
    injection e with e1 e2
    subst e1; subst e2
    refine rowAt_of (fun j u hu => ?_) s.size_cells
    have hj : j < 23 := by
      have := (List.getElem?_eq_some_iff.1 hu).1
      rwa [Array.length_toList, s.size_cells] at this
    rw [Nat.add_assoc]
    refine hc _ u ?_
    rw [flat_get sgc 23 l (sgc_len l) k j s hk hj, ← hu]
/-- The signed votes of a list that verify. -/
def vfd (keys : List Nm) (l : List Sg) : List Sg := l.filter fun s => verK keys s.vote s.sig
theorem vfd_take {keys : List Nm} {l : List Sg} {i : Nat} {s : Sg} (h : l[i]? = some s) : vfd keys (l.take (i + 1)) = vfd keys (l.take i) ++ if verK keys s.vote s.sig = true then [s] else [] := by
  obtain ⟨hi, rfl⟩ := List.getElem?_eq_some_iff.1 h
  unfold vfd
  rw [List.take_succ_eq_append_getElem hi, List.filter_append]
  congr 1
  by_cases hv : verK keys l[i].vote l[i].sig = true
  · rw [if_pos hv]; simp [hv]
  · rw [if_neg hv]; simp [hv]
theorem vfd_le (keys : List Nm) (l : List Sg) (i : Nat) : (vfd keys (l.take i)).length ≤ i := by
  have h1 := List.length_filter_le (fun s : Sg => verK keys s.vote s.sig) (l.take i)
  rw [List.length_take] at h1
  unfold vfd
  omega
def SgsOk (w : World) (B' : Nat) (l : List Sg) : Prop := ∀ s ∈ l, SgOk w B' s ∧ SgCap s
theorem SgsOk.below {w w' : World} {B' : Nat} {l : List Sg} (h : SgsOk w B' l) (hb : Below B' w w') : SgsOk w' B' l := fun s hs => ⟨(h s hs).1.below hb, (h s hs).2⟩
/-- Where the reference's Verified stands at the head of its loop. -/
def VfdRel (keys : List Nm) (l : List Sg) (w : World) (n : Nat) (v iv : Value) (wr : World) : Prop :=
  ∃ (i : Nat), iv = .int .i64 (i : Int) ∧ i ≤ n ∧ wr.ownsRow w.heap.size 34 23 v (vfd keys (l.take i)).length ((vfd keys (l.take i)).flatMap sgc) ∧ Below w.heap.size w wr

end Go.Proofs.YthmecidpjlaonaaGreat
namespace Go.Proofs.YthmecidpjlaonaaGreat

abbrev VS := Vt × List UInt8
abbrev Sg.vs (s : Sg) : VS := (s.vote, s.sig)
/-- Bytes in ascending order, as strings are compared. -/
def bytesLe : List UInt8 → List UInt8 → Bool
  | [], _ => true
  | _ :: _, [] => false
  | x :: a, y :: b => if x = y then bytesLe a b else decide (x < y)
/-- Strictly ascending by the votes. -/
def ascL : List VS → Bool
  | x :: y :: l => lessV x.1 y.1 && ascL (y :: l)
  | _ => true
/-- The merge of two lists, of like votes the one with the smaller signature. -/
def mergeL : List VS → List VS → List VS
  | [], b => b
  | a, [] => a
  | x :: a, y :: b =>
    if lessV x.1 y.1 = true then x :: mergeL a (y :: b)
    else if lessV y.1 x.1 = true then y :: mergeL (x :: a) b
    else if bytesLe x.2 y.2 = true then mergeL (x :: a) b
    else mergeL a (y :: b)
termination_by a b => a.length + b.length
theorem mergeL_nil (a : List VS) : mergeL a [] = a := by cases a <;> simp [mergeL]
theorem nil_mergeL (b : List VS) : mergeL [] b = b := by simp [mergeL]
theorem mergeL_len : ∀ (n : Nat) (a b : List VS), a.length + b.length ≤ n → (mergeL a b).length ≤ a.length + b.length
  | _, [], b, _ => by simp [mergeL]
  | _, x :: a, [], _ => by simp [mergeL]
  | 0, x :: a, y :: b, h => by simp at h
  | n + 1, x :: a, y :: b, h => by
    have h1 := mergeL_len n a (y :: b) (by simp at h ⊢; omega)
    have h2 := mergeL_len n (x :: a) b (by simp at h ⊢; omega)
    simp only [List.length_cons] at h1 h2 ⊢
    rw [mergeL]
    split
    · simp only [List.length_cons]; omega
    · split
      · simp only [List.length_cons]; omega
      · split <;> omega
/-- The reference's Canonical; k bounds the depth. -/
def canL : Nat → List VS → List VS
  | 0, l => l
  | k + 1, l => if ascL l = true then l else mergeL (canL k (l.take (l.length / 2))) (canL k (l.drop (l.length / 2)))
theorem canL_len : ∀ (k : Nat) (l : List VS), (canL k l).length ≤ l.length
  | 0, _ => Nat.le_refl _
  | k + 1, l => by
    rw [canL]
    split
    · exact Nat.le_refl _
    · have h1 := canL_len k (l.take (l.length / 2))
      have h2 := canL_len k (l.drop (l.length / 2))
      have h3 := mergeL_len _ (canL k (l.take (l.length / 2))) (canL k (l.drop (l.length / 2))) (Nat.le_refl _)
      rw [List.length_take] at h1
      rw [List.length_drop] at h2
      omega
theorem ascL_short (l : List VS) (h : l.length ≤ 1) : ascL l = true := by
  match l, h with
  | [], _ => rfl
  | [_], _ => rfl
/-- A depth of the list's length is enough. -/
theorem canL_more : ∀ (k j : Nat) (l : List VS), l.length ≤ k → l.length ≤ j → canL k l = canL j l
  | 0, 0, _, _, _ => rfl
  | 0, j + 1, l, h, _ => by rw [canL, canL, if_pos (ascL_short l (by omega))]
  | k + 1, 0, l, _, h => by rw [canL, canL, if_pos (ascL_short l (by omega))]
  | k + 1, j + 1, l, h, h' => by
    rw [canL, canL]
    by_cases ha : ascL l = true
    · rw [if_pos ha, if_pos ha]
    · have h2 : 2 ≤ l.length := by
        rcases Nat.lt_or_ge l.length 2 with h3 | h3
        · exact absurd (ascL_short l (by omega)) ha
        · exact h3
      rw [if_neg ha, if_neg ha, canL_more k j (l.take (l.length / 2)) (by rw [List.length_take]; omega) (by rw [List.length_take]; omega),
        canL_more k j (l.drop (l.length / 2)) (by rw [List.length_drop]; omega) (by rw [List.length_drop]; omega)]
def canF (l : List VS) : List VS := canL l.length l
theorem canF_asc {l : List VS} (h : ascL l = true) : canF l = l := by
  unfold canF
  cases hl : l.length with
  | zero => rfl
  | succ k => rw [canL, if_pos h]
theorem canF_split {l : List VS} (h : ¬ ascL l = true) : canF l = mergeL (canF (l.take (l.length / 2))) (canF (l.drop (l.length / 2))) := by
  have h2 : 2 ≤ l.length := by
    rcases Nat.lt_or_ge l.length 2 with h3 | h3
    · exact absurd (ascL_short l (by omega)) h
    · exact h3
  unfold canF
  obtain ⟨k, hk⟩ : ∃ k, l.length = k + 1 := ⟨l.length - 1, by omega⟩
  rw [show canL l.length l = canL (k + 1) l from by rw [hk], canL, if_neg h,
    canL_more k (l.take (l.length / 2)).length (l.take (l.length / 2)) (by rw [List.length_take]; omega) (Nat.le_refl _),
    canL_more k (l.drop (l.length / 2)).length (l.drop (l.length / 2)) (by rw [List.length_drop]; omega) (Nat.le_refl _)]
theorem canF_len (l : List VS) : (canF l).length ≤ l.length := canL_len _ l
end Go.Proofs.YthmecidpjlaonaaGreat
namespace Go.Proofs.YthmecidpjlaonaaGreat
open Go.RowKit
attribute [local go_sem ↓] Go.wp_at_zero Go.wp_at_succ loadNm loadVt loadSg loadEv
attribute [local go_sem] runNm runVt runSg runEv pickRow_some rowAt_drew rowAt_drewN
end Go.Proofs.YthmecidpjlaonaaGreat
namespace Go.Proofs.YthmecidpjlaonaaGreat
open Go.RowKit

theorem own_far {w w' : World} {b e s n b' e' s' n' : Nat} {v v' : Value} {xs xs' : List Value} (h : w.ownsRow b e s v n xs) (h' : w.ownsRow b' e' s' v' n' xs') (hne : e ≠ e') (hg : w.grownBy w' v'.ownBlock) : w'.ownsRow b e s v n xs := by
  refine ⟨h.1, ?_⟩
  rcases h.2 with h0 | ⟨g, cap, cur, hv, hgb, hh, r⟩
  · exact .inl h0
  · exact .inr ⟨g, cap, cur, hv, hgb, (hg.block g (lt_of_block hh) (own_ne h' hh (Ne.symm hne))).trans hh, r⟩
theorem own_none {w w' : World} {b e s n : Nat} {v : Value} {xs : List Value} (h : w.ownsRow b e s v n xs) (hg : w.grownBy w' none) : w'.ownsRow b e s v n xs := by
  refine ⟨h.1, ?_⟩
  rcases h.2 with h0 | ⟨g, cap, cur, hv, hgb, hh, r⟩
  · exact .inl h0
  · exact .inr ⟨g, cap, cur, hv, hgb, (hg.block g (lt_of_block hh) (by simp)).trans hh, r⟩
theorem SgsOk.more {w : World} {B' B'' : Nat} {l : List Sg} (h : SgsOk w B' l) (hb : B' ≤ B'') : SgsOk w B'' l := fun s hs => ⟨(h s hs).1.more hb, (h s hs).2⟩
/-- The signature lies in memory of its own. -/
def SgOwn (w : World) (b : Nat) (s : Sg) : Prop := s.vote.ok ∧ w.ownsRow b 5 1 (.slice s.A s.sig.length s.cap) s.sig.length (s.sig.map B) ∧ s.sig.length ≤ 140737488351232
theorem SgOwn.ok {w : World} {b : Nat} {s : Sg} (h : SgOwn w b s) : SgOk w w.heap.size s ∧ SgCap s := by
  refine ⟨⟨h.1, Rd.of_own h.2.1, h.2.2⟩, ?_⟩
  rcases h.2.1.2 with ⟨hv, hn⟩ | ⟨g, cap, cur, hv, _, _, h1, h2, _⟩
  · injection hv with _ _ hc
    refine ⟨by omega, by unfold maxLen; omega⟩
  · injection hv with _ _ hc
    subst hc
    exact ⟨h1, h2⟩
theorem SgOwn.none {w w' : World} {b : Nat} {s : Sg} (h : SgOwn w b s) (hg : w.grownBy w' none) : SgOwn w' b s := ⟨h.1, own_none h.2.1 hg, h.2.2⟩
theorem SgOwn.alloc {w : World} {b : Nat} {s : Sg} (h : SgOwn w b s) (o : Obj) : SgOwn (w.alloc o) b s := ⟨h.1, h.2.1.alloc o, h.2.2⟩
theorem SgOwn.far {w w' : World} {b b' m n : Nat} {v : Value} {xs : List Value} {s : Sg} (h : SgOwn w b s) (h' : w.ownsRow b' 34 m v n xs) (hg : w.grownBy w' v.ownBlock) : SgOwn w' b s := ⟨h.1, own_far h.2.1 h' (by decide) hg, h.2.2⟩
/-- What Canonical returns. -/
def CanPost (w : World) (l : List VS) (e : Ending) (w' : World) : Prop :=
  ∃ (L : List Sg) (v : Value), e = .returned v ∧ Below w.heap.size w w' ∧ w'.ownsRow w.heap.size 34 23 v L.length (L.flatMap sgc) ∧ SgsOk w' w'.heap.size L ∧ L.map Sg.vs = canF l
/-- A slice of signed votes that is read. -/
def SlOk (w : World) (L : List Sg) (v : Value) : Prop :=
  ∃ A c, v = .slice A L.length c ∧ Rd w w.heap.size A (L.flatMap sgc) ∧ L.length ≤ c ∧ c ≤ maxLen ∧ SgsOk w w.heap.size L
theorem SlOk.below {w w' : World} {L : List Sg} {v : Value} (h : SlOk w L v) (hb : Below w.heap.size w w') : SlOk w' L v := by
  obtain ⟨A, c, h1, h2, h3, h4, h5⟩ := h
  exact ⟨A, c, h1, (h2.below hb).more hb.size, h3, h4, (h5.below hb).more hb.size⟩
theorem own_slice {w : World} {b n : Nat} {v : Value} {L : List Sg} (h : w.ownsRow b 34 23 v n (L.flatMap sgc)) (hn : n = L.length) (hs : SgsOk w w.heap.size L) : SlOk w L v := by
  subst hn
  rcases h.2 with ⟨hv, h0⟩ | ⟨g, cap, cur, hv, _, _, h1, h2, _⟩
  · subst hv
    have hL : L = [] := List.eq_nil_of_length_eq_zero h0
    subst hL
    exact ⟨none, 0, rfl, Rd.nil, Nat.le_refl _, by unfold maxLen; omega, hs⟩
  · subst hv
    exact ⟨_, cap, rfl, Rd.of_own h, h1, h2, hs⟩
/-- A slice literal of one struct, at a step of a region that draws its order. -/
theorem wp_build1 {P : Program} {o : Oper} {a : Act} {w : World} {K : Act → World → Prop} {Q : Exit → Act → World → Prop} (d : Option Tmp) (hd : o.dst = d) (t e : TypeId) (x : Operand) (ho : o.op = .buildSlice t 1 #[(0, x)])
    (cs : Array Value) (hx : a.eval x = .agg cs) (hu : P.underlying t = some (.slice e)) (hi : (P.info? e).map (fun i => (i.zero.isSome, i.size)) = some (true, cs.size)) (hpos : 0 < cs.size) (hsm : cs.size ≤ 1000)
    (h : K (a.put d (.slice (some ⟨w.heap.size, 0, none⟩) 1 1)) (w.alloc (.cells cs e))) : o.wp P a w K Q := by
  subst hd
  cases hie : P.info? e with
  | none => simp [hie] at hi
  | some ie =>
    simp only [hie, Option.map_some, Option.some.injEq, Prod.mk.injEq] at hi
    obtain ⟨hz, hsz⟩ := hi
    obtain ⟨z, hzz⟩ := Option.isSome_iff_exists.1 hz
    refine wp_buildSlice t e 1 #[(0, x)] ho cs ie z hu hie hzz (by rw [hsz]; omega) (by rw [hsz]; omega) ?_ h
    have hf := Great.fill_whole (s := ie.size) (by rw [hsz]; exact hpos) [Value.agg cs] ((Array.range (1 * ie.size)).map (z.cells[· % z.cells.size]!)) (by intro v hv; rw [List.mem_singleton.1 hv, hsz]; rfl) (by simp)
    have ev : (#[(0, x)].map fun ((i, x) : Nat × Operand) => (i, a.eval x)).toList = ([Value.agg cs].zipIdx 0).map fun x => (x.2, x.1) := by simp [hx]
    rw [ev, hf]
    simp [Value.cells]
theorem flat_drop {α : Type} (f : α → List Value) (m : Nat) : ∀ (l : List α) (_ : ∀ x ∈ l, (f x).length = m) (k : Nat), (l.drop k).flatMap f = (l.flatMap f).drop (k * m)
  | [], _, k => by simp
  | y :: r, _, 0 => by simp
  | y :: r, hm, k + 1 => by
    have hy : (f y).length = m := hm y (by simp)
    rw [List.drop_succ_cons, flat_drop f m r (fun z hz => hm z (by simp [hz])) k, List.flatMap_cons, List.drop_append, hy]
    have h0 : List.drop ((k + 1) * m) (f y) = [] := List.drop_eq_nil_of_le (by rw [hy, Nat.succ_mul]; omega)
    rw [h0, List.nil_append]
    congr 1
    rw [Nat.succ_mul]; omega
theorem Rd.dropRow {w : World} {B' b o : Nat} {xs : List Value} (h : Rd w B' (some ⟨b, o, none⟩) xs) (j : Nat) : Rd w B' (some ⟨b, o + j, none⟩) (xs.drop j) := by
  rcases h with rfl | ⟨b', o', e, hb, hc⟩
  · exact .inl (by simp)
  · injection e with e
    injection e with e1 e2
    subst e1; subst e2
    refine .inr ⟨b, o + j, rfl, hb, fun i u hu => ?_⟩
    rw [List.getElem?_drop] at hu
    rw [Nat.add_assoc]
    exact hc _ u hu
theorem Rd.sgDrop {w : World} {B' b o : Nat} {l : List Sg} (h : Rd w B' (some ⟨b, o, none⟩) (l.flatMap sgc)) (k : Nat) : Rd w B' (some ⟨b, o + k * 23, none⟩) ((l.drop k).flatMap sgc) := by
  rw [flat_drop sgc 23 l (sgc_len l)]
  exact h.dropRow _
theorem Rd.sgTake {w : World} {B' : Nat} {A : Option Addr} {l : List Sg} (h : Rd w B' A (l.flatMap sgc)) (k : Nat) : Rd w B' A ((l.take k).flatMap sgc) := by
  have e : l.flatMap sgc = (l.take k).flatMap sgc ++ (l.drop k).flatMap sgc := by rw [← List.flatMap_append, List.take_append_drop]
  have h2 := h.take ((l.take k).flatMap sgc).length
  rwa [e, List.take_left] at h2
theorem SgsOk.sub {w : World} {B' : Nat} {l l' : List Sg} (h : SgsOk w B' l) (hs : ∀ s ∈ l', s ∈ l) : SgsOk w B' l' := fun s hx => h s (hs s hx)
/-- The rest of a slice behind its first element. -/
theorem SlOk.tail {W : World} {x : Sg} {L : List Sg} {b o c : Nat} (h : Rd W W.heap.size (some ⟨b, o, none⟩) ((x :: L).flatMap sgc)) (hc : L.length + 1 ≤ c) (hm : c ≤ maxLen) (hok : SgsOk W W.heap.size (x :: L)) : SlOk W L (.slice (if c = 1 then some ⟨b, o, none⟩ else some ⟨b, o + 23, none⟩) L.length (c - 1)) := by
  refine ⟨_, _, rfl, ?_, by omega, by omega, hok.sub (fun s hs => List.mem_cons_of_mem _ hs)⟩
  split
  · have hL : L = [] := List.eq_nil_of_length_eq_zero (by omega)
    subst hL
    exact .inl rfl
  · have := h.sgDrop 1
    simpa using this
end Go.Proofs.YthmecidpjlaonaaGreat
