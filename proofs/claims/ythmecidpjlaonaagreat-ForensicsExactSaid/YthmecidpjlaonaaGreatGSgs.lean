/-
  Rows of signed votes: reading one, and the loop of the reference's Verified. Condition: keys and list lie in memory below the call.
  Plain mathematics of the reference's Canonical: what it returns for a list of votes and signatures (canF), and how long that is. No condition.
  The reference's Canonical, its first loop: whether the list ascends. (Under way.) Condition: the list lies in memory below the call.
  Memory for the reference's Canonical: what it returns (CanPost), where its loops stand, a slice literal of one struct in a drawn region. No condition.
-/
import Derived.Test.YthmecidpjlaonaaGreatGRVfy
import Derived.Test.YthmecidpjlaonaaGreatGDefs
import Derived.Great.BuildSlice
import Derived.Deep.DeepCutAuto
namespace Go.Proofs.YthmecidpjlaonaaGreat
open Go.RowKit
attribute [local go_sem ↓] Go.wp_at_zero Go.wp_at_succ loadNm loadVt loadSg loadEv
attribute [local go_sem] runNm runVt runSg runEv pickRow_some rowAt_drew rowAt_drewN

/-- A slice literal of one struct. -/
theorem wpList_build1 {P : Program} {ops : Array Oper} {rest : List Oper} {o : Oper} {a : Act} {w : World} {Q : Exit → Act → World → Prop} (hg : o.guard = none) (t e : TypeId) (x : Operand) (ho : o.op = .buildSlice t 1 #[(0, x)])
    (cs : Array Value) (hx : a.eval x = .agg cs) (hu : P.underlying t = some (.slice e)) (hi : (P.info? e).map (fun i => (i.zero.isSome, i.size)) = some (true, cs.size)) (hpos : 0 < cs.size) (hsm : cs.size ≤ 1000)
    (h : wpList P ops Q rest (a.put o.dst (.slice (some ⟨w.heap.size, 0, none⟩) 1 1)) (w.alloc (.cells cs e))) : wpList P ops Q (o :: rest) a w := by
  cases hie : P.info? e with
  | none => simp [hie] at hi
  | some ie =>
    simp only [hie, Option.map_some, Option.some.injEq, Prod.mk.injEq] at hi
    obtain ⟨hz, hsz⟩ := hi
    obtain ⟨z, hzz⟩ := Option.isSome_iff_exists.1 hz
    refine wpList_buildSlice hg t e 1 #[(0, x)] ho cs ie z hu hie hzz (by rw [hsz]; omega) (by rw [hsz]; omega) ?_ h
    have hf := Great.fill_whole (s := ie.size) (by rw [hsz]; exact hpos) [Value.agg cs] ((Array.range (1 * ie.size)).map (z.cells[· % z.cells.size]!)) (by intro v hv; rw [List.mem_singleton.1 hv, hsz]; rfl) (by simp)
    have ev : (#[(0, x)].map fun ((i, x) : Nat × Operand) => (i, a.eval x)).toList = ([Value.agg cs].zipIdx 0).map fun x => (x.2, x.1) := by simp [hx]
    rw [ev, hf]
    simp [Value.cells]
theorem info_signed : (Tryz.prog.info? 34).map (fun i => (i.zero, i.size, i.bytes)) = some (some (.agg zeroSc), 23, 88) := by kernel_rfl
abbrev sgc (s : Sg) : List Value := s.cells.toList
theorem sgc_len (l : List Sg) : ∀ s ∈ l, (sgc s).length = 23 := fun s _ => by rw [Array.length_toList]; exact s.size_cells
/-- Signed vote k of a row that is read. -/
theorem Rd.sgRow {w : World} {B' b o : Nat} {l : List Sg} {k : Nat} {s : Sg} (h : Rd w B' (some ⟨b, o, none⟩) (l.flatMap sgc)) (hk : l[k]? = some s) : rowAt w b (o + k * 23) 23 = some s.cells := by
  have hpos := (List.getElem?_eq_some_iff.1 hk).1
  rcases h with h | ⟨b', o', e, hb, hc⟩
  · have := flat_length sgc 23 l (sgc_len l)
    rw [h] at this
    simp at this; omega
  · injection e with e
    injection e with e1 e2
    subst e1; subst e2
    refine rowAt_of (fun j u hu => ?_) s.size_cells
    have hj : j < 23 := by
      have := (List.getElem?_eq_some_iff.1 hu).1
      rwa [Array.length_toList, s.size_cells] at this
    rw [Nat.add_assoc]
    refine hc _ u ?_
    rw [flat_get sgc 23 l (sgc_len l) k j s hk hj, ← hu]
/-- The signed votes of a list that verify. -/
def vfd (keys : List Nm) (l : List Sg) : List Sg := l.filter fun s => verK keys s.vote s.sig
theorem vfd_take {keys : List Nm} {l : List Sg} {i : Nat} {s : Sg} (h : l[i]? = some s) : vfd keys (l.take (i + 1)) = vfd keys (l.take i) ++ if verK keys s.vote s.sig = true then [s] else [] := by
  obtain ⟨hi, rfl⟩ := List.getElem?_eq_some_iff.1 h
  unfold vfd
  rw [List.take_succ_eq_append_getElem hi, List.filter_append]
  congr 1
  by_cases hv : verK keys l[i].vote l[i].sig = true
  · rw [if_pos hv]; simp [hv]
  · rw [if_neg hv]; simp [hv]
theorem vfd_le (keys : List Nm) (l : List Sg) (i : Nat) : (vfd keys (l.take i)).length ≤ i := by
  have h1 := List.length_filter_le (fun s : Sg => verK keys s.vote s.sig) (l.take i)
  rw [List.length_take] at h1
  unfold vfd
  omega
def SgsOk (w : World) (B' : Nat) (l : List Sg) : Prop := ∀ s ∈ l, SgOk w B' s ∧ SgCap s
theorem SgsOk.below {w w' : World} {B' : Nat} {l : List Sg} (h : SgsOk w B' l) (hb : Below B' w w') : SgsOk w' B' l := fun s hs => ⟨(h s hs).1.below hb, (h s hs).2⟩
/-- Where the reference's Verified stands at the head of its loop. -/
def VfdRel (keys : List Nm) (l : List Sg) (w : World) (n : Nat) (v iv : Value) (wr : World) : Prop :=
  ∃ (i : Nat), iv = .int .i64 (i : Int) ∧ i ≤ n ∧ wr.ownsRow w.heap.size 34 23 v (vfd keys (l.take i)).length ((vfd keys (l.take i)).flatMap sgc) ∧ Below w.heap.size w wr

set_option maxRecDepth 100000 in
set_option maxHeartbeats 4000000 in
theorem rvfd_core (K A : Option Addr) (nk ck n c : Nat) (keys : List Nm) (l : List Sg) (w : World) (Q : World → Ending → World → Prop) (hnk : keys.length = nk) (hn : l.length = n) (hK : Rd w w.heap.size K (keys.flatMap nmc)) (hr : Rd w w.heap.size A (l.flatMap sgc))
    (hok : SgsOk w w.heap.size l) (hsmall : n ≤ 1000000)
    (hcan : ∀ v W, Below w.heap.size w W → W.ownsRow w.heap.size 34 23 v (vfd keys l).length ((vfd keys l).flatMap sgc) → Calls Tryz.prog 27 #[v] W (Q W)) (hQ : ∀ W e w', Q W e w' → ∃ v, e = .returned v) :
    Calls Tryz.prog 10 #[.slice K nk ck, .slice A n c] w (fun e w' => ∃ W, Below w.heap.size w W ∧ Q W e w') := by
  have HNK := Lib.hid hnk; clear hnk
  have HN := Lib.hid hn; clear hn
  have HK := Lib.hid hK; clear hK
  have HR := Lib.hid hr; clear hr
  have HOk := Lib.hid hok; clear hok
  have HCan := Lib.hid hcan; clear hcan
  have HQ := Lib.hid hQ; clear hQ
  go_enter Tryz.func10, Tryz.ntmps10
  go_wp2
  go_loopw [5, 6] (fun v iv wr => VfdRel keys l w n v iv wr) (fun _ iv _ => n - (intOf iv).toNat)
  case atStart => exact ⟨0, rfl, by omega, ⟨by simp [vfd], .inl ⟨by simp, rfl⟩⟩, Below.refl _ _⟩
  case round =>
    obtain ⟨i, rfl, hin, hown, hbw⟩ := hrel
    by_cases hi : i < n
    · obtain ⟨cnt, hcnt⟩ : ∃ cnt, cnt = (vfd keys (l.take i)).length := ⟨_, rfl⟩
      obtain ⟨xs, hxs⟩ : ∃ xs, xs = (vfd keys (l.take i)).flatMap sgc := ⟨_, rfl⟩
      rw [← hcnt, ← hxs] at hown
      have hcl : cnt ≤ i := by rw [hcnt]; exact vfd_le keys l i
      have HCnt := Lib.hid hcnt
      have HXs := Lib.hid hxs
      have HOwn := Lib.hid hown
      clear hown hcnt hxs
      obtain ⟨s, hs⟩ : ∃ s, l[i]? = some s := ⟨_, List.getElem?_eq_getElem (by rw [HN.out]; exact hi)⟩
      obtain ⟨b, o, rfl, hb, hcell⟩ := HR.out.cells (by intro e; have := flat_length sgc 23 l (sgc_len l); rw [e, HN.out] at this; simp at this; omega)
      clear hcell
      have hrow := fun W (hW : Below w.heap.size w W) => (HR.out.below hW).sgRow hs
      have x1 := hrow _ hbw
      have HRow := Lib.hid hrow
      have hsm : s ∈ l := List.mem_of_getElem? hs
      have hver := fun W (hW : Below w.heap.size w W) => verify_any K ck keys s W ((HK.out.below hW).more hW.size) (((HOk.out s hsm).1.below hW).more hW.size) (HOk.out s hsm).2
      rw [HNK.out] at hver
      have HVer := Lib.hid hver
      have HS := Lib.hid hs
      clear hrow hver hs hsm
      by_cases hv : verK keys s.vote s.sig = true
      · have HV := Lib.hid hv
        rw [hv] at HVer
        clear hv
        go_wp2_with ((first
          | (go_at_call 44; refine (HVer.out _ hbw).mono ?_; rintro en w2 ⟨rfl, hb2⟩; have hbw2 := hbw.trans (hb2.mono hbw.size); have x2 := HRow.out _ hbw2; have hown2 := Lib.hid (own_below HOwn.out hb2 (Nat.le_refl _)); clear hb2 x1)
          | (refine wpList_build1 rfl 23 34 (.tmp 23) rfl s.cells rfl Tryz.underlying23 (by rw [Sg.size_cells]; kernel_rfl) (by rw [Sg.size_cells]; omega) (by rw [Sg.size_cells]; omega) ?_)
          | (at_builtin; refine wpList_app rfl (.tmp 19) (.tmp 24) _ rfl w.heap.size 34 (.agg zeroSc) 23 88 Tryz.underlying23 info_signed rfl (by decide) u5 cnt xs rfl ?r0 (w2.heap.size + 1) (some ⟨w2.heap.size, 0, none⟩) 1 1 (sgc s) rfl ?r1 ?r2 ?r3 ?r4 ?r5 ?r6 ?_)))
        case r0 => exact hown2.out.alloc _
        case r1 => rw [Array.length_toList]; exact s.size_cells
        case r2 => exact Rd.mk (by omega) (fun j u hu => by rw [Nat.zero_add, (Blk.new w2 _ _).cell]; simpa using hu)
        case r3 => exact fun u hu => s.one u hu
        case r4 => omega
        case r5 => unfold maxLen; omega
        case r6 => have := hbw2.size; simp; omega
        intro v3 w3 hown3 hg3 hat3
        have hbw3 : Below w.heap.size w w3 := below_own (hbw2.alloc hbw2.size _) (hown2.out.alloc _) hg3
        have HOwn3 := Lib.hid hown3
        clear hown3 hg3 hat3 hown2 hbw2 x2
        go_wp2
        go_roundw
        case rel =>
          refine ⟨i + 1, by go_num, by omega, ?_, hbw3⟩
          have h := HOwn3.out
          rw [HCnt.out, HXs.out] at h
          rw [vfd_take HS.out, if_pos HV.out, List.length_append, List.flatMap_append]
          simpa using h
        case measure => simp [intOf]; omega
      · have HV := Lib.hid hv
        rw [Bool.eq_false_iff.mpr hv] at HVer
        clear hv
        go_wp2_with ((go_at_call 44; refine (HVer.out _ hbw).mono ?_; rintro en w2 ⟨rfl, hb2⟩; have hbw2 := hbw.trans (hb2.mono hbw.size); have hown2 := Lib.hid (own_below HOwn.out hb2 (Nat.le_refl _)); clear hb2 x1))
        go_roundw
        case rel =>
          refine ⟨i + 1, by go_num, by omega, ?_, hbw2⟩
          have h := hown2.out
          rw [HCnt.out, HXs.out] at h
          rw [vfd_take HS.out, if_neg HV.out, List.append_nil]
          exact h
        case measure => simp [intOf]; omega
    · obtain rfl : n = i := by omega
      have HT : Hid (l.take n = l) := by unfold Hid; rw [← HN.out, List.take_length]
      rw [HT.out] at hown
      have HOwn2 := Lib.hid hown
      clear hown
      go_wp2_with fail
      refine (HCan.out _ _ hbw HOwn2.out).mono ?_
      rintro en w2 hq
      obtain ⟨v, rfl⟩ := HQ.out _ _ _ hq
      go_wp2
      go_ret
      exact ⟨_, hbw, hq⟩
end Go.Proofs.YthmecidpjlaonaaGreat
namespace Go.Proofs.YthmecidpjlaonaaGreat

abbrev VS := Vt × List UInt8
abbrev Sg.vs (s : Sg) : VS := (s.vote, s.sig)
/-- Bytes in ascending order, as strings are compared. -/
def bytesLe : List UInt8 → List UInt8 → Bool
  | [], _ => true
  | _ :: _, [] => false
  | x :: a, y :: b => if x = y then bytesLe a b else decide (x < y)
/-- Strictly ascending by the votes. -/
def ascL : List VS → Bool
  | x :: y :: l => lessV x.1 y.1 && ascL (y :: l)
  | _ => true
/-- The merge of two lists, of like votes the one with the smaller signature. -/
def mergeL : List VS → List VS → List VS
  | [], b => b
  | a, [] => a
  | x :: a, y :: b =>
    if lessV x.1 y.1 = true then x :: mergeL a (y :: b)
    else if lessV y.1 x.1 = true then y :: mergeL (x :: a) b
    else if bytesLe x.2 y.2 = true then mergeL (x :: a) b
    else mergeL a (y :: b)
termination_by a b => a.length + b.length
theorem mergeL_nil (a : List VS) : mergeL a [] = a := by cases a <;> simp [mergeL]
theorem nil_mergeL (b : List VS) : mergeL [] b = b := by simp [mergeL]
theorem mergeL_len : ∀ (n : Nat) (a b : List VS), a.length + b.length ≤ n → (mergeL a b).length ≤ a.length + b.length
  | _, [], b, _ => by simp [mergeL]
  | _, x :: a, [], _ => by simp [mergeL]
  | 0, x :: a, y :: b, h => by simp at h
  | n + 1, x :: a, y :: b, h => by
    have h1 := mergeL_len n a (y :: b) (by simp at h ⊢; omega)
    have h2 := mergeL_len n (x :: a) b (by simp at h ⊢; omega)
    simp only [List.length_cons] at h1 h2 ⊢
    rw [mergeL]
    split
    · simp only [List.length_cons]; omega
    · split
      · simp only [List.length_cons]; omega
      · split <;> omega
/-- The reference's Canonical; k bounds the depth. -/
def canL : Nat → List VS → List VS
  | 0, l => l
  | k + 1, l => if ascL l = true then l else mergeL (canL k (l.take (l.length / 2))) (canL k (l.drop (l.length / 2)))
theorem canL_len : ∀ (k : Nat) (l : List VS), (canL k l).length ≤ l.length
  | 0, _ => Nat.le_refl _
  | k + 1, l => by
    rw [canL]
    split
    · exact Nat.le_refl _
    · have h1 := canL_len k (l.take (l.length / 2))
      have h2 := canL_len k (l.drop (l.length / 2))
      have h3 := mergeL_len _ (canL k (l.take (l.length / 2))) (canL k (l.drop (l.length / 2))) (Nat.le_refl _)
      rw [List.length_take] at h1
      rw [List.length_drop] at h2
      omega
theorem ascL_short (l : List VS) (h : l.length ≤ 1) : ascL l = true := by
  match l, h with
  | [], _ => rfl
  | [_], _ => rfl
/-- A depth of the list's length is enough. -/
theorem canL_more : ∀ (k j : Nat) (l : List VS), l.length ≤ k → l.length ≤ j → canL k l = canL j l
  | 0, 0, _, _, _ => rfl
  | 0, j + 1, l, h, _ => by rw [canL, canL, if_pos (ascL_short l (by omega))]
  | k + 1, 0, l, _, h => by rw [canL, canL, if_pos (ascL_short l (by omega))]
  | k + 1, j + 1, l, h, h' => by
    rw [canL, canL]
    by_cases ha : ascL l = true
    · rw [if_pos ha, if_pos ha]
    · have h2 : 2 ≤ l.length := by
        rcases Nat.lt_or_ge l.length 2 with h3 | h3
        · exact absurd (ascL_short l (by omega)) ha
        · exact h3
      rw [if_neg ha, if_neg ha, canL_more k j (l.take (l.length / 2)) (by rw [List.length_take]; omega) (by rw [List.length_take]; omega),
        canL_more k j (l.drop (l.length / 2)) (by rw [List.length_drop]; omega) (by rw [List.length_drop]; omega)]
def canF (l : List VS) : List VS := canL l.length l
theorem canF_asc {l : List VS} (h : ascL l = true) : canF l = l := by
  unfold canF
  cases hl : l.length with
  | zero => rfl
  | succ k => rw [canL, if_pos h]
theorem canF_split {l : List VS} (h : ¬ ascL l = true) : canF l = mergeL (canF (l.take (l.length / 2))) (canF (l.drop (l.length / 2))) := by
  have h2 : 2 ≤ l.length := by
    rcases Nat.lt_or_ge l.length 2 with h3 | h3
    · exact absurd (ascL_short l (by omega)) h
    · exact h3
  unfold canF
  obtain ⟨k, hk⟩ : ∃ k, l.length = k + 1 := ⟨l.length - 1, by omega⟩
  rw [show canL l.length l = canL (k + 1) l from by rw [hk], canL, if_neg h,
    canL_more k (l.take (l.length / 2)).length (l.take (l.length / 2)) (by rw [List.length_take]; omega) (Nat.le_refl _),
    canL_more k (l.drop (l.length / 2)).length (l.drop (l.length / 2)) (by rw [List.length_drop]; omega) (Nat.le_refl _)]
theorem canF_len (l : List VS) : (canF l).length ≤ l.length := canL_len _ l
theorem ascL_iff : ∀ (l : List VS), ascL l = true ↔ ∀ i x y, l[i]? = some x → l[i + 1]? = some y → lessV x.1 y.1 = true
  | [] => by simp [ascL]
  | [a] => by simp [ascL]
  | a :: b :: l => by
    rw [ascL, Bool.and_eq_true, ascL_iff (b :: l)]
    constructor
    · rintro ⟨h1, h2⟩ i x y hx hy
      cases i with
      | zero =>
        simp at hx hy
        subst hx; subst hy
        exact h1
      | succ i => exact h2 i x y (by simpa using hx) (by simpa using hy)
    · intro h
      exact ⟨h 0 a b rfl rfl, fun i x y hx hy => h (i + 1) x y (by simpa using hx) (by simpa using hy)⟩
end Go.Proofs.YthmecidpjlaonaaGreat
namespace Go.Proofs.YthmecidpjlaonaaGreat
open Go.RowKit
attribute [local go_sem ↓] Go.wp_at_zero Go.wp_at_succ loadNm loadVt loadSg loadEv
attribute [local go_sem] runNm runVt runSg runEv pickRow_some rowAt_drew rowAt_drewN
/-- The vote of signed vote k of a row that is read. -/
theorem Rd.sgVote {w : World} {B' b o : Nat} {l : List Sg} {k : Nat} {s : Sg} (h : Rd w B' (some ⟨b, o, none⟩) (l.flatMap sgc)) (hk : l[k]? = some s) : rowAt w b (o + k * 23) 22 = some s.vote.cells := by
  have hpos := (List.getElem?_eq_some_iff.1 hk).1
  rcases h with h | ⟨b', o', e, hb, hc⟩
  · have := flat_length sgc 23 l (sgc_len l)
    rw [h] at this
    simp at this; omega
  · injection e with e
    injection e with e1 e2
    subst e1; subst e2
    refine rowAt_of (fun j u hu => ?_) rfl
    have hj : j < 22 := by
      have := (List.getElem?_eq_some_iff.1 hu).1
      simpa using this
    rw [Nat.add_assoc]
    refine hc _ u ?_
    rw [flat_get sgc 23 l (sgc_len l) k j s hk (by omega)]
    have := s.cell_vote j u (by simpa using hu)
    simpa using this
/-- Where Canonical stands at the head of its first loop. -/
def RdyRel (l : List VS) (w : World) (n : Nat) (rv iv : Value) (wr : World) : Prop :=
  ∃ (i : Nat) (rb : Bool), rv = .bool rb ∧ iv = .int .i64 (i : Int) ∧ i ≤ n ∧ (rb = true → ∀ j x y, j < i → l[j]? = some x → l[j + 1]? = some y → lessV x.1 y.1 = true) ∧ (rb = false → ascL l = false) ∧ Below w.heap.size w wr
end Go.Proofs.YthmecidpjlaonaaGreat
namespace Go.Proofs.YthmecidpjlaonaaGreat
open Go.RowKit

theorem own_far {w w' : World} {b e s n b' e' s' n' : Nat} {v v' : Value} {xs xs' : List Value} (h : w.ownsRow b e s v n xs) (h' : w.ownsRow b' e' s' v' n' xs') (hne : e ≠ e') (hg : w.grownBy w' v'.ownBlock) : w'.ownsRow b e s v n xs := by
  refine ⟨h.1, ?_⟩
  rcases h.2 with h0 | ⟨g, cap, cur, hv, hgb, hh, r⟩
  · exact .inl h0
  · exact .inr ⟨g, cap, cur, hv, hgb, (hg.block g (lt_of_block hh) (own_ne h' hh (Ne.symm hne))).trans hh, r⟩
theorem own_none {w w' : World} {b e s n : Nat} {v : Value} {xs : List Value} (h : w.ownsRow b e s v n xs) (hg : w.grownBy w' none) : w'.ownsRow b e s v n xs := by
  refine ⟨h.1, ?_⟩
  rcases h.2 with h0 | ⟨g, cap, cur, hv, hgb, hh, r⟩
  · exact .inl h0
  · exact .inr ⟨g, cap, cur, hv, hgb, (hg.block g (lt_of_block hh) (by simp)).trans hh, r⟩
theorem SgsOk.more {w : World} {B' B'' : Nat} {l : List Sg} (h : SgsOk w B' l) (hb : B' ≤ B'') : SgsOk w B'' l := fun s hs => ⟨(h s hs).1.more hb, (h s hs).2⟩
/-- The signature lies in memory of its own. -/
def SgOwn (w : World) (b : Nat) (s : Sg) : Prop := s.vote.ok ∧ w.ownsRow b 5 1 (.slice s.A s.sig.length s.cap) s.sig.length (s.sig.map B) ∧ s.sig.length ≤ 140737488351232
theorem SgOwn.ok {w : World} {b : Nat} {s : Sg} (h : SgOwn w b s) : SgOk w w.heap.size s ∧ SgCap s := by
  refine ⟨⟨h.1, Rd.of_own h.2.1, h.2.2⟩, ?_⟩
  rcases h.2.1.2 with ⟨hv, hn⟩ | ⟨g, cap, cur, hv, _, _, h1, h2, _⟩
  · injection hv with _ _ hc
    refine ⟨by omega, by unfold maxLen; omega⟩
  · injection hv with _ _ hc
    subst hc
    exact ⟨h1, h2⟩
theorem SgOwn.none {w w' : World} {b : Nat} {s : Sg} (h : SgOwn w b s) (hg : w.grownBy w' none) : SgOwn w' b s := ⟨h.1, own_none h.2.1 hg, h.2.2⟩
theorem SgOwn.alloc {w : World} {b : Nat} {s : Sg} (h : SgOwn w b s) (o : Obj) : SgOwn (w.alloc o) b s := ⟨h.1, h.2.1.alloc o, h.2.2⟩
theorem SgOwn.far {w w' : World} {b b' m n : Nat} {v : Value} {xs : List Value} {s : Sg} (h : SgOwn w b s) (h' : w.ownsRow b' 34 m v n xs) (hg : w.grownBy w' v.ownBlock) : SgOwn w' b s := ⟨h.1, own_far h.2.1 h' (by decide) hg, h.2.2⟩
/-- A bool that was computed, and nothing below has turned. -/
def BoolCut (r : Bool) (w : World) (s : Value) (wx : World) : Prop := s = .bool r ∧ Below w.heap.size w wx
/-- What Canonical returns. -/
def CanPost (w : World) (l : List VS) (e : Ending) (w' : World) : Prop :=
  ∃ (L : List Sg) (v : Value), e = .returned v ∧ Below w.heap.size w w' ∧ w'.ownsRow w.heap.size 34 23 v L.length (L.flatMap sgc) ∧ SgsOk w' w'.heap.size L ∧ L.map Sg.vs = canF l
/-- Where its second loop stands. -/
def CopyRel (l : List VS) (w : World) (v iv : Value) (wr : World) : Prop :=
  ∃ (i : Nat) (O : List Sg), iv = .int .i64 (i : Int) ∧ i ≤ l.length ∧ O.map Sg.vs = l.take i ∧ wr.ownsRow w.heap.size 34 23 v O.length (O.flatMap sgc) ∧ (∀ s ∈ O, SgOwn wr w.heap.size s) ∧ Below w.heap.size w wr
/-- A slice of signed votes that is read. -/
def SlOk (w : World) (L : List Sg) (v : Value) : Prop :=
  ∃ A c, v = .slice A L.length c ∧ Rd w w.heap.size A (L.flatMap sgc) ∧ L.length ≤ c ∧ c ≤ maxLen ∧ SgsOk w w.heap.size L
theorem SlOk.below {w w' : World} {L : List Sg} {v : Value} (h : SlOk w L v) (hb : Below w.heap.size w w') : SlOk w' L v := by
  obtain ⟨A, c, h1, h2, h3, h4, h5⟩ := h
  exact ⟨A, c, h1, (h2.below hb).more hb.size, h3, h4, (h5.below hb).more hb.size⟩
/-- The two sorted halves. -/
def TwoL (w : World) (la lb : List VS) (s t : Value) (wx : World) : Prop :=
  ∃ L M : List Sg, SlOk wx L s ∧ SlOk wx M t ∧ L.map Sg.vs = la ∧ M.map Sg.vs = lb ∧ Below w.heap.size w wx
/-- Where the merge stands; W is the world in which it began. -/
def MrgRel (all : List VS) (n : Nat) (W : World) (s t v : Value) (wr : World) : Prop :=
  ∃ L M O : List Sg, SlOk W L s ∧ SlOk W M t ∧ SgsOk W W.heap.size O ∧ wr.ownsRow W.heap.size 34 23 v O.length (O.flatMap sgc) ∧ Below W.heap.size W wr ∧ O.map Sg.vs ++ mergeL (L.map Sg.vs) (M.map Sg.vs) = all ∧ O.length + L.length + M.length ≤ n
def lenOfV : Value → Nat
  | .slice _ n _ => n
  | _ => 0
theorem own_slice {w : World} {b n : Nat} {v : Value} {L : List Sg} (h : w.ownsRow b 34 23 v n (L.flatMap sgc)) (hn : n = L.length) (hs : SgsOk w w.heap.size L) : SlOk w L v := by
  subst hn
  rcases h.2 with ⟨hv, h0⟩ | ⟨g, cap, cur, hv, _, _, h1, h2, _⟩
  · subst hv
    have hL : L = [] := List.eq_nil_of_length_eq_zero h0
    subst hL
    exact ⟨none, 0, rfl, Rd.nil, Nat.le_refl _, by unfold maxLen; omega, hs⟩
  · subst hv
    exact ⟨_, cap, rfl, Rd.of_own h, h1, h2, hs⟩
/-- The end of the merge's way, in the post's form. -/
theorem can_post {l : List VS} {w W wr : World} {v : Value} {O : List Sg} (hb : Below w.heap.size w W) (hO : SgsOk W W.heap.size O) (hown : wr.ownsRow W.heap.size 34 23 v O.length (O.flatMap sgc)) (hbw : Below W.heap.size W wr) (ha : O.map Sg.vs = canF l) :
    CanPost w l (.returned v) wr :=
  ⟨O, v, rfl, hb.trans (hbw.mono hb.size), own_base hown hb.size, (hO.below hbw).more hbw.size, ha⟩
/-- A slice literal of one struct, at a step of a region that draws its order. -/
theorem wp_build1 {P : Program} {o : Oper} {a : Act} {w : World} {K : Act → World → Prop} {Q : Exit → Act → World → Prop} (d : Option Tmp) (hd : o.dst = d) (t e : TypeId) (x : Operand) (ho : o.op = .buildSlice t 1 #[(0, x)])
    (cs : Array Value) (hx : a.eval x = .agg cs) (hu : P.underlying t = some (.slice e)) (hi : (P.info? e).map (fun i => (i.zero.isSome, i.size)) = some (true, cs.size)) (hpos : 0 < cs.size) (hsm : cs.size ≤ 1000)
    (h : K (a.put d (.slice (some ⟨w.heap.size, 0, none⟩) 1 1)) (w.alloc (.cells cs e))) : o.wp P a w K Q := by
  subst hd
  cases hie : P.info? e with
  | none => simp [hie] at hi
  | some ie =>
    simp only [hie, Option.map_some, Option.some.injEq, Prod.mk.injEq] at hi
    obtain ⟨hz, hsz⟩ := hi
    obtain ⟨z, hzz⟩ := Option.isSome_iff_exists.1 hz
    refine wp_buildSlice t e 1 #[(0, x)] ho cs ie z hu hie hzz (by rw [hsz]; omega) (by rw [hsz]; omega) ?_ h
    have hf := Great.fill_whole (s := ie.size) (by rw [hsz]; exact hpos) [Value.agg cs] ((Array.range (1 * ie.size)).map (z.cells[· % z.cells.size]!)) (by intro v hv; rw [List.mem_singleton.1 hv, hsz]; rfl) (by simp)
    have ev : (#[(0, x)].map fun ((i, x) : Nat × Operand) => (i, a.eval x)).toList = ([Value.agg cs].zipIdx 0).map fun x => (x.2, x.1) := by simp [hx]
    rw [ev, hf]
    simp [Value.cells]
theorem flat_drop {α : Type} (f : α → List Value) (m : Nat) : ∀ (l : List α) (_ : ∀ x ∈ l, (f x).length = m) (k : Nat), (l.drop k).flatMap f = (l.flatMap f).drop (k * m)
  | [], _, k => by simp
  | y :: r, _, 0 => by simp
  | y :: r, hm, k + 1 => by
    have hy : (f y).length = m := hm y (by simp)
    rw [List.drop_succ_cons, flat_drop f m r (fun z hz => hm z (by simp [hz])) k, List.flatMap_cons, List.drop_append, hy]
    have h0 : List.drop ((k + 1) * m) (f y) = [] := List.drop_eq_nil_of_le (by rw [hy, Nat.succ_mul]; omega)
    rw [h0, List.nil_append]
    congr 1
    rw [Nat.succ_mul]; omega
theorem Rd.dropRow {w : World} {B' b o : Nat} {xs : List Value} (h : Rd w B' (some ⟨b, o, none⟩) xs) (j : Nat) : Rd w B' (some ⟨b, o + j, none⟩) (xs.drop j) := by
  rcases h with rfl | ⟨b', o', e, hb, hc⟩
  · exact .inl (by simp)
  · injection e with e
    injection e with e1 e2
    subst e1; subst e2
    refine .inr ⟨b, o + j, rfl, hb, fun i u hu => ?_⟩
    rw [List.getElem?_drop] at hu
    rw [Nat.add_assoc]
    exact hc _ u hu
theorem Rd.sgDrop {w : World} {B' b o : Nat} {l : List Sg} (h : Rd w B' (some ⟨b, o, none⟩) (l.flatMap sgc)) (k : Nat) : Rd w B' (some ⟨b, o + k * 23, none⟩) ((l.drop k).flatMap sgc) := by
  rw [flat_drop sgc 23 l (sgc_len l)]
  exact h.dropRow _
theorem Rd.sgTake {w : World} {B' : Nat} {A : Option Addr} {l : List Sg} (h : Rd w B' A (l.flatMap sgc)) (k : Nat) : Rd w B' A ((l.take k).flatMap sgc) := by
  have e : l.flatMap sgc = (l.take k).flatMap sgc ++ (l.drop k).flatMap sgc := by rw [← List.flatMap_append, List.take_append_drop]
  have h2 := h.take ((l.take k).flatMap sgc).length
  rwa [e, List.take_left] at h2
theorem SgsOk.sub {w : World} {B' : Nat} {l l' : List Sg} (h : SgsOk w B' l) (hs : ∀ s ∈ l', s ∈ l) : SgsOk w B' l' := fun s hx => h s (hs s hx)
/-- The signature's cell of signed vote k. -/
theorem Rd.sgSig {w : World} {B' b o : Nat} {l : List Sg} {k : Nat} {s : Sg} (h : Rd w B' (some ⟨b, o, none⟩) (l.flatMap sgc)) (hk : l[k]? = some s) : w.cell? ⟨b, o + k * 23 + 22, none⟩ = some (.slice s.A s.sig.length s.cap) := by
  have hrow := (rowAt_back (h.sgRow hk)).2
  exact hrow 22 _ (by simpa using s.cell_sig)
theorem bytesLe_eq : ∀ a b : List UInt8, (Op.bytesLess a b || a == b) = bytesLe a b
  | [], [] => rfl
  | [], _ :: _ => rfl
  | _ :: _, [] => rfl
  | x :: a, y :: b => by
    rw [bytesLe, ← bytesLe_eq a b]
    by_cases h : x = y
    · subst h; simp [Op.bytesLess]
    · have h' : (x == y) = false := beq_eq_false_iff_ne.mpr h
      simp [Op.bytesLess, h, h']
theorem strLe_eq (a b : List UInt8) : (Op.bytesLess (⟨a.toArray⟩ : ByteArray).toList (⟨b.toArray⟩ : ByteArray).toList || (⟨a.toArray⟩ : ByteArray).toList == (⟨b.toArray⟩ : ByteArray).toList) = bytesLe a b := by
  rw [ByteArray.toList_eq, ByteArray.toList_eq]
  exact bytesLe_eq a b
/-- A bool of the merge's switch; the list so far is where it was. -/
def MCut (r : Bool) (W : World) (v : Value) (O : List Sg) (s : Value) (wx : World) : Prop := s = .bool r ∧ wx.ownsRow W.heap.size 34 23 v O.length (O.flatMap sgc) ∧ Below W.heap.size W wx
theorem mergeL_a {x y : VS} {a b : List VS} (h : lessV x.1 y.1 = true) : mergeL (x :: a) (y :: b) = x :: mergeL a (y :: b) := by rw [mergeL, if_pos h]
theorem mergeL_b {x y : VS} {a b : List VS} (h : lessV x.1 y.1 = false) (h2 : lessV y.1 x.1 = true) : mergeL (x :: a) (y :: b) = y :: mergeL (x :: a) b := by rw [mergeL, if_neg (by rw [h]; simp), if_pos h2]
theorem mergeL_c {x y : VS} {a b : List VS} (h : lessV x.1 y.1 = false) (h2 : lessV y.1 x.1 = false) (h3 : bytesLe x.2 y.2 = true) : mergeL (x :: a) (y :: b) = mergeL (x :: a) b := by rw [mergeL, if_neg (by rw [h]; simp), if_neg (by rw [h2]; simp), if_pos h3]
theorem mergeL_d {x y : VS} {a b : List VS} (h : lessV x.1 y.1 = false) (h2 : lessV y.1 x.1 = false) (h3 : bytesLe x.2 y.2 = false) : mergeL (x :: a) (y :: b) = mergeL a (y :: b) := by rw [mergeL, if_neg (by rw [h]; simp), if_neg (by rw [h2]; simp), if_neg (by rw [h3]; simp)]
/-- The rest of a slice behind its first element. -/
theorem SlOk.tail {W : World} {x : Sg} {L : List Sg} {b o c : Nat} (h : Rd W W.heap.size (some ⟨b, o, none⟩) ((x :: L).flatMap sgc)) (hc : L.length + 1 ≤ c) (hm : c ≤ maxLen) (hok : SgsOk W W.heap.size (x :: L)) : SlOk W L (.slice (if c = 1 then some ⟨b, o, none⟩ else some ⟨b, o + 23, none⟩) L.length (c - 1)) := by
  refine ⟨_, _, rfl, ?_, by omega, by omega, hok.sub (fun s hs => List.mem_cons_of_mem _ hs)⟩
  split
  · have hL : L = [] := List.eq_nil_of_length_eq_zero (by omega)
    subst hL
    exact .inl rfl
  · have := h.sgDrop 1
    simpa using this
/-- Whether the merge takes from the first list. -/
def headA : List Sg → List Sg → Bool
  | _, [] => true
  | [], _ :: _ => false
  | x :: _, y :: _ => lessV x.vote y.vote
/-- Whether it then takes from the second. -/
def headB : List Sg → List Sg → Bool
  | [], _ => true
  | _ :: _, [] => false
  | x :: _, y :: _ => lessV y.vote x.vote
theorem Rd.sgFirst {w : World} {B' : Nat} {A : Option Addr} {x : Sg} {l : List Sg} (h : Rd w B' A ((x :: l).flatMap sgc)) : ∃ b o, A = some ⟨b, o, none⟩ := by
  obtain ⟨b, o, h, _, _⟩ := h.cells (by intro e; have := flat_length sgc 23 (x :: l) (sgc_len _); rw [e] at this; simp at this)
  exact ⟨b, o, h⟩
theorem Rd.sg0 {w : World} {B' b o : Nat} {x : Sg} {l : List Sg} (h : Rd w B' (some ⟨b, o, none⟩) ((x :: l).flatMap sgc)) : rowAt w b o 22 = some x.vote.cells ∧ rowAt w b o 23 = some x.cells ∧ w.cell? ⟨b, o + 22, none⟩ = some (.slice x.A x.sig.length x.cap) := by
  have h1 := h.sgVote (k := 0) rfl
  have h2 := h.sgRow (k := 0) rfl
  have h3 := h.sgSig (k := 0) rfl
  simp only [Nat.zero_mul, Nat.add_zero] at h1 h2 h3
  exact ⟨h1, h2, h3⟩
theorem cons_of_len {α : Type} {l : List α} {p : Nat} (h : l.length = p) (hp : ¬ p = 0) : ∃ x r, l = x :: r := by
  cases l with
  | nil => exact absurd h.symm hp
  | cons x r => exact ⟨x, r, rfl⟩
end Go.Proofs.YthmecidpjlaonaaGreat
