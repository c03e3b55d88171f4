/-
  The reference's FindIn returns, for each signer from 0 to 9, the first neighbours of the list that are its votes in conflict. Condition: the list lies in memory below the call and has at most a million elements.
  The reference's Verified returns the canonical list of the votes that verify, and its Find the evidence in it. Condition: keys and list lie in memory below the call, the list has at most a million elements.
  Plain mathematics of finding evidence in a canonical list: the first vote of each key and the votes behind it give the first neighbours in conflict. No condition.
  The keys of the program's two maps, numbers of trees and what votes in conflict have in common, are told apart by '=='. No condition.
  Plain mathematics of what is found, without where it lies: who is guilty of a list of signed votes. No condition.
-/
import Derived.Test.YthmecidpjlaonaaGreatHSgs
import Derived.Deep.DeepCutAuto
import Derived.Test.YthmecidpjlaonaaGreatSGOrd
import Derived.Test.YthmecidpjlaonaaGreatSGMap
namespace Go.Proofs.YthmecidpjlaonaaGreat
open Go.RowKit
attribute [local go_sem ↓] Go.wp_at_zero Go.wp_at_succ loadNm loadVt loadSg loadEv
attribute [local go_sem] runNm runVt runSg runEv pickRow_some rowAt_drew rowAt_drewN
/-- The first neighbours that are votes of signer s in conflict. -/
def firstC (s : Nat) : List Sg → Option Ev
  | x :: y :: r => if x.vote.signer = (s : Int) ∧ ConfP x.vote y.vote then some ⟨x, y⟩ else firstC s (y :: r)
  | _ => none
def findF (l : List Sg) (k : Nat) : List Ev := (List.range k).filterMap fun s => firstC s l
theorem findF_succ (l : List Sg) (k : Nat) : findF l (k + 1) = findF l k ++ (firstC k l).toList := by
  unfold findF
  rw [List.range_succ, List.filterMap_append]
  congr 1
theorem findF_len (l : List Sg) (k : Nat) : (findF l k).length ≤ k := by
  have := List.length_filterMap_le (fun s => firstC s l) (List.range k)
  rw [List.length_range] at this
  exact this
theorem firstC_mem {s : Nat} {e : Ev} : ∀ {l : List Sg}, firstC s l = some e → e.a ∈ l ∧ e.b ∈ l
  | [], h => by cases h
  | [_], h => by cases h
  | x :: y :: r, h => by
    rw [firstC] at h
    split at h
    · cases h; simp
    · obtain ⟨h1, h2⟩ := firstC_mem h
      exact ⟨List.mem_cons_of_mem _ h1, List.mem_cons_of_mem _ h2⟩
set_option maxRecDepth 100000 in
theorem run_buildEv {o : Oper} {a : Act} (x y : Sg) (s t : Operand) (ho : o.op = .build 51 #[(0, s), (1, t)]) (hs : a.eval s = x.val) (ht : a.eval t = y.val) (w : World) :
    (execOp a.eval o).run Tryz.prog w = .ok (.value (Ev.mk x y).val) w := by
  obtain ⟨v, sig, A, c⟩ := x
  obtain ⟨v', sig', A', c'⟩ := y
  unfold Ev.val
  rw [ev_lit]
  unfold Sg.val at hs ht
  rw [sg_lit] at hs ht
  unfold execOp
  rw [ho]
  simp only [List.map_toArray, List.map_cons, List.map_nil, hs, ht]
  go_simp
theorem info_ev : (Tryz.prog.info? 51).map (fun i => (i.zero, i.size, i.bytes)) = some (some (.agg zeroEc), 46, 176) := by kernel_rfl
end Go.Proofs.YthmecidpjlaonaaGreat
namespace Go.Proofs.YthmecidpjlaonaaGreat
open Go.RowKit

theorem vfd_sub {keys : List Nm} {l : List Sg} : ∀ s ∈ vfd keys l, s ∈ l := fun _ hs => (List.mem_filter.1 hs).1
theorem vfd_all_le (keys : List Nm) (l : List Sg) : (vfd keys l).length ≤ l.length := List.length_filter_le _ _
end Go.Proofs.YthmecidpjlaonaaGreat
namespace Go.Proofs.YthmecidpjlaonaaGreat

/-- What two votes in conflict have in common. -/
structure Ky where
  kind : Int
  slot : Int
  round : Int
  signer : Int
  parent : Nm
  deriving DecidableEq
def kyOf (v : Vt) : Ky := ⟨v.kind, v.slot, v.round, v.signer, v.parent⟩
theorem same_ky (a b : Vt) : SameP a b ↔ kyOf a = kyOf b := by
  unfold SameP kyOf
  simp only [Ky.mk.injEq]
  constructor
  · rintro ⟨h1, h2, h3, h4, h5⟩; exact ⟨h1, h3, h4, h5, h2⟩
  · rintro ⟨h1, h3, h4, h5, h2⟩; exact ⟨h1, h2, h3, h4, h5⟩
def pre5 (v : Vt) : List Int := [(numN v.parent.bytes : Int), v.slot, v.round, v.kind, v.signer]
theorem pre5_ky {a b : Vt} : pre5 a = pre5 b ↔ kyOf a = kyOf b := by
  unfold pre5 kyOf
  simp only [List.cons.injEq, and_true, nm_iff, Ky.mk.injEq]
  constructor
  · rintro ⟨h1, h2, h3, h4, h5⟩; exact ⟨h4, h2, h3, h5, h1⟩
  · rintro ⟨h4, h2, h3, h5, h1⟩; exact ⟨h1, h2, h3, h4, h5⟩
theorem less_pre {a b : Vt} (h : lessV a b = true) : pre5 a = pre5 b ∨ lexLt (pre5 a) (pre5 b) = true := by
  rw [lessV_lex, show keyV a = pre5 a ++ [a.choice, (numN a.value.bytes : Int), a.support] from rfl, show keyV b = pre5 b ++ [b.choice, (numN b.value.bytes : Int), b.support] from rfl, lexLt_append (pre5 a) (pre5 b) _ _ (by simp [pre5])] at h
  by_cases e : pre5 a = pre5 b
  · exact .inl e
  · rw [if_neg e] at h; exact .inr h
/-- Between two votes of one key lie votes of that key alone. -/
theorem ky_between {a b c : Vt} (h : lessV a b = true) (h' : lessV b c = true) (e : kyOf a = kyOf c) : kyOf a = kyOf b := by
  rw [← pre5_ky] at e ⊢
  rcases less_pre h with h1 | h1
  · exact h1
  · rcases less_pre h' with h2 | h2
    · rw [e, h2]
    · rw [e] at h1
      have := lexLt_asymm h1
      rw [h2] at this; cases this
/-- The first of a key. -/
def firstK (κ : Ky) : List Sg → Option Sg
  | [] => none
  | x :: r => if kyOf x.vote = κ then some x else firstK κ r
def StrictL (l : List Sg) : Prop := l.Pairwise fun x y => lessV x.vote y.vote = true
theorem strictL_iff (l : List Sg) : StrictL l ↔ StrictV (l.map Sg.vs) := by unfold StrictL StrictV; rw [List.pairwise_map]
theorem firstK_append (κ : Ky) (s : Sg) : ∀ l, firstK κ (l ++ [s]) = (firstK κ l).or (if kyOf s.vote = κ then some s else none)
  | [] => by rw [List.nil_append, firstK, firstK]; simp [firstK]
  | x :: r => by
    rw [List.cons_append, firstK, firstK, firstK_append κ s r]
    by_cases h : kyOf x.vote = κ
    · rw [if_pos h, if_pos h]; rfl
    · rw [if_neg h, if_neg h]
theorem firstK_mem {κ : Ky} {a : Sg} : ∀ {l : List Sg}, firstK κ l = some a → a ∈ l ∧ kyOf a.vote = κ
  | [], h => by cases h
  | x :: r, h => by
    rw [firstK] at h
    by_cases e : kyOf x.vote = κ
    · rw [if_pos e] at h; cases h; exact ⟨by simp, e⟩
    · rw [if_neg e] at h
      have := firstK_mem h
      exact ⟨List.mem_cons_of_mem _ this.1, this.2⟩
theorem firstK_none {κ : Ky} : ∀ {l : List Sg}, firstK κ l = none → ∀ x ∈ l, kyOf x.vote ≠ κ
  | [], _, _, hx => by cases hx
  | x :: r, h, y, hy => by
    rw [firstK] at h
    by_cases e : kyOf x.vote = κ
    · rw [if_pos e] at h; cases h
    · rw [if_neg e] at h
      rcases List.mem_cons.1 hy with rfl | hy
      · exact e
      · exact firstK_none h y hy
theorem firstC_append (i : Nat) (s : Sg) : ∀ l : List Sg, firstC i (l ++ [s]) = (firstC i l).or (match l.getLast? with | some y => if y.vote.signer = (i : Int) ∧ ConfP y.vote s.vote then some ⟨y, s⟩ else none | none => none)
  | [] => rfl
  | [x] => by
    show firstC i [x, s] = _
    rw [firstC]
    by_cases h : x.vote.signer = (i : Int) ∧ ConfP x.vote s.vote
    · rw [if_pos h]; simp [firstC, h]
    · rw [if_neg h]; simp [firstC, h]
  | x :: y :: r => by
    have ih := firstC_append i s (y :: r)
    rw [List.cons_append, List.cons_append, firstC, firstC]
    rw [List.cons_append] at ih
    by_cases h : x.vote.signer = (i : Int) ∧ ConfP x.vote y.vote
    · rw [if_pos h, if_pos h]; rfl
    · rw [if_neg h, if_neg h, ih, List.getLast?_cons_cons]
theorem firstC_skip {i : Nat} {s : Sg} {l : List Sg} (h : ∀ y, l.getLast? = some y → ¬ (y.vote.signer = (i : Int) ∧ ConfP y.vote s.vote)) : firstC i (l ++ [s]) = firstC i l := by
  rw [firstC_append]
  rcases hl : l.getLast? with _ | y
  · simp
  · simp [h y hl]
/-- The first vote of its key: nothing is found. -/
theorem find_new {i : Nat} {s : Sg} {l : List Sg} (h : firstK (kyOf s.vote) l = none) : firstC i (l ++ [s]) = firstC i l :=
  firstC_skip fun y hy hc => firstK_none h y (List.mem_of_getLast? hy) ((same_ky _ _).1 hc.2.2.1)
theorem find_other {i : Nat} {s : Sg} {l : List Sg} (h : s.vote.signer ≠ (i : Int)) : firstC i (l ++ [s]) = firstC i l :=
  firstC_skip fun y _ hc => h (by rw [← hc.2.2.1.2.2.2.2]; exact hc.1)
theorem find_kept {i : Nat} {s : Sg} {l : List Sg} {e : Ev} (h : firstC i l = some e) : firstC i (l ++ [s]) = some e := by rw [firstC_append, h]; rfl
theorem conf_next {x y : Sg} (hx : ValidP x.vote) (hy : ValidP y.vote) (hl : lessV x.vote y.vote = true) (hk : kyOf x.vote = kyOf y.vote) : ConfP x.vote y.vote :=
  ⟨(fun e => by rw [e, lessV_irrefl] at hl; cases hl), (same_ky _ _).2 hk, hx, hy⟩
theorem last_is {i : Nat} {a s : Sg} (hs : ValidP s.vote) (hi : s.vote.signer = (i : Int)) : ∀ {l : List Sg}, StrictL (l ++ [s]) → (∀ x ∈ l, ValidP x.vote) → firstK (kyOf s.vote) l = some a → firstC i l = none → l.getLast? = some a
  | [], _, _, h, _ => by cases h
  | [x], _, _, h, _ => by
    rw [firstK] at h
    split at h
    · exact h
    · cases h
  | x :: y :: r, hst, hv, h, hc => by
    have hst' : StrictL (x :: (y :: r ++ [s])) := hst
    obtain ⟨h1, h2⟩ := List.pairwise_cons.1 hst'
    have hxy : lessV x.vote y.vote = true := h1 y (by simp)
    have hys : lessV y.vote s.vote = true := (List.pairwise_cons.1 (show StrictL (y :: (r ++ [s])) from h2)).1 s (by simp)
    have hcc : ¬ (x.vote.signer = (i : Int) ∧ ConfP x.vote y.vote) := fun hh => by rw [firstC, if_pos hh] at hc; cases hc
    rw [firstC, if_neg hcc] at hc
    have hx : ¬ kyOf x.vote = kyOf s.vote := by
      intro e
      have e2 := ky_between hxy hys e
      refine hcc ⟨?_, conf_next (hv x (by simp)) (hv y (by simp)) hxy e2⟩
      rw [← hi]
      exact congrArg Ky.signer e
    rw [firstK, if_neg hx] at h
    rw [List.getLast?_cons_cons]
    exact last_is hs hi h2 (fun z hz => hv z (List.mem_cons_of_mem _ hz)) h hc
/-- The second of a key, the first of its signer. -/
theorem find_first {i : Nat} {a s : Sg} {l : List Sg} (hs : ValidP s.vote) (hi : s.vote.signer = (i : Int)) (hst : StrictL (l ++ [s])) (hv : ∀ x ∈ l, ValidP x.vote) (h : firstK (kyOf s.vote) l = some a) (hc : firstC i l = none) : firstC i (l ++ [s]) = some ⟨a, s⟩ := by
  have hl := last_is hs hi hst hv h hc
  obtain ⟨ha, hk⟩ := firstK_mem h
  rw [firstC_append, hc, hl]
  have hlt : lessV a.vote s.vote = true := (List.pairwise_append.1 hst).2.2 a ha s (by simp)
  simp only [Option.none_or]
  rw [if_pos]
  refine ⟨?_, conf_next (hv a ha) hs hlt hk⟩
  rw [← hi]
  exact congrArg Ky.signer hk
/-- A later one is not ahead of what was found. -/
theorem find_later {i : Nat} {a s : Sg} {e : Ev} (hs : ValidP s.vote) (hi : s.vote.signer = (i : Int)) : ∀ {l : List Sg}, StrictL (l ++ [s]) → (∀ x ∈ l, ValidP x.vote) → firstK (kyOf s.vote) l = some a → firstC i l = some e → lessV a.vote e.a.vote = false
  | [], _, _, h, _ => by cases h
  | [x], _, _, _, hc => by cases hc
  | x :: y :: r, hst, hv, h, hc => by
    have hst' : StrictL (x :: (y :: r ++ [s])) := hst
    obtain ⟨h1, h2⟩ := List.pairwise_cons.1 hst'
    have hxy : lessV x.vote y.vote = true := h1 y (by simp)
    have hys : lessV y.vote s.vote = true := (List.pairwise_cons.1 (show StrictL (y :: (r ++ [s])) from h2)).1 s (by simp)
    rw [firstC] at hc
    by_cases hcc : x.vote.signer = (i : Int) ∧ ConfP x.vote y.vote
    · rw [if_pos hcc] at hc
      cases hc
      rcases List.mem_cons.1 (firstK_mem h).1 with rfl | ha
      · exact lessV_irrefl _
      · exact lessV_asymm (h1 a (by simpa using Or.inl (List.mem_cons.1 ha) |>.elim (fun h => by rcases h with h | h <;> simp [h]) id))
    · rw [if_neg hcc] at hc
      have hx : ¬ kyOf x.vote = kyOf s.vote := by
        intro e
        have e2 := ky_between hxy hys e
        refine hcc ⟨?_, conf_next (hv x (by simp)) (hv y (by simp)) hxy e2⟩
        rw [← hi]
        exact congrArg Ky.signer e
      rw [firstK, if_neg hx] at h
      exact find_later hs hi h2 (fun z hz => hv z (List.mem_cons_of_mem _ hz)) h hc
end Go.Proofs.YthmecidpjlaonaaGreat
namespace Go.Proofs.YthmecidpjlaonaaGreat
open Go.RowKit

abbrev Ky.cells (k : Ky) : Array Value := #[I k.kind, I k.slot, I k.round, I k.signer, B k.parent.b0, B k.parent.b1, B k.parent.b2, B k.parent.b3, B k.parent.b4, B k.parent.b5, B k.parent.b6, B k.parent.b7]
abbrev encK (k : Ky) : Value := .agg k.cells

set_option maxRecDepth 100000 in
theorem keyK_eq (a b : Ky) (w : World) : (Op.equal 81 (encK a) (encK b)).run Tryz.prog w = .ok (decide (a = b)) w := by
  show (Op.equalIn 10000 81 (encK a) (encK b)).run Tryz.prog w = _
  have u3 := Tryz.underlying3
  have a3 := Tryz.isAgg3
  have z3 := Tryz.sizeOf3
  have a5 := Tryz.isAgg29
  have z5 := Tryz.sizeOf29
  have hS : Tryz.prog.underlying 81 = some (.struct (Tryz.prog.fieldsOf 81)) := by kernel_rfl
  rw [show (10000 : Nat) = 9999 + 1 from rfl, run_equalIn_agg w 9999 81 _ _ hS (by kernel_rfl)]
  have e6 := fun w => eqNm a.parent b.parent w 9997
  simp only [Program.fieldsOf, Tryz.underlying81]
  go_simp
  rw [ite_last]
  iterate 3 rw [ite_ok w rfl]
  refine ite_ok w ?_
  cases a; cases b; simp
set_option maxRecDepth 100000 in
theorem checkNm (b : Bool) (d : Nat) (k : Nm) (w : World) : (Instr.checkKey b (d + 2) 29 k.val).run Tryz.prog w = .ok () w := by
  have a3 := Tryz.isAgg5
  have z3 := Tryz.sizeOf5
  have hi := fun n w => check_byte b d n w
  rw [Instr.checkKey]
  simp only [Sem.run_bind, run_underlying Tryz.underlying29, Result.andThen_ok]
  simp only [Std.Legacy.Range.forIn_eq_forIn_range', Std.Legacy.Range.size, Nat.sub_zero, Nat.add_sub_cancel, Nat.div_one, List.range'_succ, List.range'_zero, List.forIn_cons, List.forIn_nil]
  go_simp
set_option maxRecDepth 100000 in
theorem keyK_check (b : Bool) (k : Ky) (w : World) : (Instr.checkKey b 10000 81 (encK k)).run Tryz.prog w = .ok () w := by
  have a3 := Tryz.isAgg3
  have z3 := Tryz.sizeOf3
  have hi := fun n w => check_int b 9998 n w
  have a5 := Tryz.isAgg29
  have z5 := Tryz.sizeOf29
  have e6 := fun w => checkNm b 9997 k.parent w
  rw [Instr.checkKey]
  simp only [Sem.run_bind, run_underlying Tryz.underlying81, Result.andThen_ok]
  go_simp
theorem keyK : KeyOk Tryz.prog 81 encK where
  desc := ⟨_, Tryz.underlying81, fun _ _ => rfl⟩
  check := keyK_check
  eq := keyK_eq
  bits k := bits_agg 9999 _ (by intro v hv; simp at hv; rcases hv with rfl | rfl | rfl | rfl | rfl | rfl | rfl | rfl | rfl | rfl | rfl | rfl <;> simp [Instr.sameBits])
end Go.Proofs.YthmecidpjlaonaaGreat
namespace Go.Proofs.YthmecidpjlaonaaGreat

abbrev ES := VS × VS
abbrev Ev.vs (e : Ev) : ES := (e.a.vs, e.b.vs)
def firstS (s : Nat) : List VS → Option ES
  | x :: y :: r => if x.1.signer = (s : Int) ∧ ConfP x.1 y.1 then some (x, y) else firstS s (y :: r)
  | _ => none
def findS (c : List VS) (k : Nat) : List ES := (List.range k).filterMap fun s => firstS s c
theorem firstS_map (s : Nat) : ∀ l : List Sg, firstS s (l.map Sg.vs) = (firstC s l).map Ev.vs
  | [] => rfl
  | [_] => rfl
  | x :: y :: r => by
    have ih := firstS_map s (y :: r)
    rw [List.map_cons, List.map_cons, firstS, firstC]
    rw [List.map_cons] at ih
    by_cases h : x.vote.signer = (s : Int) ∧ ConfP x.vote y.vote
    · rw [if_pos h, if_pos h]; rfl
    · rw [if_neg h, if_neg h, ih]
theorem findS_map (l : List Sg) (k : Nat) : findS (l.map Sg.vs) k = (findF l k).map Ev.vs := by
  unfold findS findF
  rw [List.map_filterMap]
  congr 1
  funext s
  exact firstS_map s l
theorem firstS_some {s : Nat} {e : ES} : ∀ {c : List VS}, firstS s c = some e → e.1 ∈ c ∧ e.2 ∈ c ∧ e.1.1.signer = (s : Int) ∧ ConfP e.1.1 e.2.1 ∧ (StrictV c → lessV e.1.1 e.2.1 = true)
  | [], h => by cases h
  | [_], h => by cases h
  | x :: y :: r, h => by
    rw [firstS] at h
    split at h
    · rename_i hc
      cases h
      exact ⟨by simp, by simp, hc.1, hc.2, fun hs => (List.pairwise_cons.1 hs).1 y (by simp)⟩
    · obtain ⟨h1, h2, h3, h4, h5⟩ := firstS_some h
      exact ⟨List.mem_cons_of_mem _ h1, List.mem_cons_of_mem _ h2, h3, h4, fun hs => h5 (List.pairwise_cons.1 hs).2⟩
theorem firstS_full {s : Nat} : ∀ {c : List VS}, StrictV c → (∀ x ∈ c, ValidP x.1) → firstS s c = none → ∀ x ∈ c, ∀ y ∈ c, x.1.signer = (s : Int) → lessV x.1 y.1 = true → ¬ ConfP x.1 y.1
  | [], _, _, _, _, hx, _, _, _, _ => by cases hx
  | [z], _, _, _, x, hx, y, hy, _, hl => by
    rw [List.mem_singleton.1 hx, List.mem_singleton.1 hy, lessV_irrefl] at hl; cases hl
  | a :: b :: r, hs, hv, h, x, hx, y, hy, hsg, hl => by
    obtain ⟨h1, h2⟩ := List.pairwise_cons.1 hs
    have hn : ¬ (a.1.signer = (s : Int) ∧ ConfP a.1 b.1) := fun hh => by rw [firstS, if_pos hh] at h; cases h
    rw [firstS, if_neg hn] at h
    have ih := firstS_full h2 (fun z hz => hv z (List.mem_cons_of_mem _ hz)) h
    rcases List.mem_cons.1 hx with rfl | hx2
    · rcases List.mem_cons.1 hy with rfl | hy2
      · rw [lessV_irrefl] at hl; cases hl
      · intro hc
        rcases List.mem_cons.1 hy2 with rfl | hy3
        · exact hn ⟨hsg, hc⟩
        · have hxb := h1 b (by simp)
          have hk := ky_between hxb ((List.pairwise_cons.1 h2).1 y hy3) ((same_ky _ _).1 hc.2.1)
          exact hn ⟨hsg, ⟨(fun e => by rw [e, lessV_irrefl] at hxb; cases hxb), (same_ky _ _).2 hk, hv x (by simp), hv b (by simp)⟩⟩
    · rcases List.mem_cons.1 hy with rfl | hy2
      · have := lessV_asymm (h1 x hx2); rw [hl] at this; cases this
      · exact ih x hx2 y hy2 hsg hl
/-- Signer s has two votes in conflict in c just if something is found of it. -/
theorem firstS_iff {s : Nat} {c : List VS} (hs : StrictV c) (hv : ∀ x ∈ c, ValidP x.1) : (firstS s c).isSome = true ↔ ∃ x ∈ c, ∃ y ∈ c, x.1.signer = (s : Int) ∧ ConfP x.1 y.1 := by
  constructor
  · intro h
    obtain ⟨e, he⟩ := Option.isSome_iff_exists.1 h
    obtain ⟨h1, h2, h3, h4, _⟩ := firstS_some he
    exact ⟨_, h1, _, h2, h3, h4⟩
  · rintro ⟨x, hx, y, hy, h3, h4⟩
    cases h : firstS s c with
    | some e => rfl
    | none =>
      exfalso
      have full := firstS_full hs hv h
      cases hl : lessV x.1 y.1 with
      | true => exact full x hx y hy h3 hl h4
      | false =>
        cases hl2 : lessV y.1 x.1 with
        | true => exact full y hy x hx (by rw [← h4.2.1.2.2.2.2]; exact h3) hl2 h4.symm
        | false => exact h4.1 (lessV_total hl hl2)

/-- The votes that verify. -/
def vfS (keys : List Nm) (l : List VS) : List VS := l.filter fun x => verK keys x.1 x.2
theorem vfd_vs (keys : List Nm) (l : List Sg) : (vfd keys l).map Sg.vs = vfS keys (l.map Sg.vs) := by
  unfold vfd vfS
  rw [List.filter_map]
  rfl
theorem verK_valid {keys : List Nm} {v : Vt} {g : List UInt8} (h : verK keys v g = true) : ValidP v := by
  unfold verK at h
  rw [Bool.and_eq_true, Bool.and_eq_true] at h
  have := h.2.2
  unfold verS at this
  rw [Bool.and_eq_true] at this
  exact of_decide_eq_true this.1
/-- The canonical list of the votes that verify. -/
def cvS (keys : List Nm) (l : List VS) : List VS := canF (vfS keys l)
theorem cvS_strict (keys : List Nm) (l : List VS) : StrictV (cvS keys l) := (canF_is _).asc
theorem cvS_mem {keys : List Nm} {l : List VS} {x : VS} (h : x ∈ cvS keys l) : x ∈ l ∧ verK keys x.1 x.2 = true := List.mem_filter.1 ((canF_is _).sub x h)
theorem cvS_valid {keys : List Nm} {l : List VS} : ∀ x ∈ cvS keys l, ValidP x.1 := fun _ h => verK_valid (cvS_mem h).2
theorem cvS_dom {keys : List Nm} {l : List VS} {x : VS} (h : x ∈ l) (hv : verK keys x.1 x.2 = true) : ∃ y ∈ cvS keys l, y.1 = x.1 := by
  obtain ⟨y, hy, e, _⟩ := (canF_is (vfS keys l)).dom x (List.mem_filter.2 ⟨h, hv⟩)
  exact ⟨y, hy, e⟩
/-- Signer s is guilty of the list l. -/
def GuiltyP (keys : List Nm) (l : List VS) (s : Nat) : Prop := ∃ x ∈ l, ∃ y ∈ l, x.1.signer = (s : Int) ∧ ConfP x.1 y.1 ∧ verK keys x.1 x.2 = true ∧ verK keys y.1 y.2 = true
theorem guilty_iff (keys : List Nm) (l : List VS) (s : Nat) : (firstS s (cvS keys l)).isSome = true ↔ GuiltyP keys l s := by
  rw [firstS_iff (cvS_strict keys l) cvS_valid]
  constructor
  · rintro ⟨x, hx, y, hy, h3, h4⟩
    exact ⟨x, (cvS_mem hx).1, y, (cvS_mem hy).1, h3, h4, (cvS_mem hx).2, (cvS_mem hy).2⟩
  · rintro ⟨x, hx, y, hy, h3, h4, h5, h6⟩
    obtain ⟨x', hx', e1⟩ := cvS_dom hx h5
    obtain ⟨y', hy', e2⟩ := cvS_dom hy h6
    exact ⟨x', hx', y', hy', by rw [e1]; exact h3, by rw [e1, e2]; exact h4⟩
theorem GuiltyP.mono {keys : List Nm} {l l' : List VS} {s : Nat} (h : GuiltyP keys l s) (hl : ∀ x ∈ l, x ∈ l') : GuiltyP keys l' s := by
  obtain ⟨x, hx, y, hy, r⟩ := h
  exact ⟨x, hl x hx, y, hl y hy, r⟩
theorem GuiltyP.lt {keys : List Nm} {l : List VS} {s : Nat} (h : GuiltyP keys l s) : s < 10 := by
  obtain ⟨x, hx, y, hy, h1, h2, _⟩ := h
  have := h2.2.2.1.2.1
  omega

/-- The set of the signers of what is found. -/
def maskS : List ES → Nat
  | [] => 0
  | e :: r => 2 ^ e.1.1.signer.toNat ||| maskS r
theorem maskS_bit (i : Nat) : ∀ l : List ES, (maskS l).testBit i = true ↔ ∃ e ∈ l, e.1.1.signer.toNat = i
  | [] => by simp [maskS]
  | e :: r => by
    rw [maskS, Nat.testBit_or, Bool.or_eq_true, maskS_bit i r, Nat.testBit_two_pow]
    simp
theorem maskS_append : ∀ l l' : List ES, maskS (l ++ l') = maskS l ||| maskS l'
  | [], l' => by simp [maskS]
  | e :: r, l' => by rw [List.cons_append, maskS, maskS, maskS_append r l', Nat.or_assoc]
/-- Who is guilty. -/
def gltF (keys : List Nm) (l : List VS) : Nat := maskS (findS (cvS keys l) 10)
theorem findS_mem {c : List VS} {k : Nat} {e : ES} : e ∈ findS c k ↔ ∃ s, s < k ∧ firstS s c = some e := by
  unfold findS
  rw [List.mem_filterMap]
  constructor
  · rintro ⟨s, h1, h2⟩; exact ⟨s, List.mem_range.1 h1, h2⟩
  · rintro ⟨s, h1, h2⟩; exact ⟨s, List.mem_range.2 h1, h2⟩
theorem gltF_bit (keys : List Nm) (l : List VS) (i : Nat) : (gltF keys l).testBit i = true ↔ GuiltyP keys l i := by
  unfold gltF
  rw [maskS_bit]
  constructor
  · rintro ⟨e, he, hi⟩
    obtain ⟨s, hs, hf⟩ := findS_mem.1 he
    obtain ⟨_, _, h3, _⟩ := firstS_some hf
    have : s = i := by omega
    subst this
    exact (guilty_iff keys l s).1 (by rw [hf]; rfl)
  · intro h
    obtain ⟨e, he⟩ := Option.isSome_iff_exists.1 ((guilty_iff keys l i).2 h)
    obtain ⟨_, _, h3, _⟩ := firstS_some he
    exact ⟨e, findS_mem.2 ⟨i, h.lt, he⟩, by omega⟩
theorem gltF_lt (keys : List Nm) (l : List VS) : gltF keys l < 1024 := by
  refine Nat.lt_of_not_le fun h => ?_
  have : ∃ i, 10 ≤ i ∧ (gltF keys l).testBit i = true := Nat.exists_ge_and_testBit_of_ge_two_pow (n := 10) h
  obtain ⟨i, hi, hb⟩ := this
  have := ((gltF_bit keys l i).1 hb).lt
  omega
/-- The signers of what is found ascend. -/
theorem findS_asc (c : List VS) (k : Nat) : (findS c k).Pairwise fun e f => e.1.1.signer < f.1.1.signer := by
  unfold findS
  rw [List.pairwise_filterMap]
  refine (List.pairwise_lt_range (n := k)).imp ?_
  intro a b hab e he f hf
  have h1 := (firstS_some he).2.2.1
  have h2 := (firstS_some hf).2.2.1
  omega
end Go.Proofs.YthmecidpjlaonaaGreat
