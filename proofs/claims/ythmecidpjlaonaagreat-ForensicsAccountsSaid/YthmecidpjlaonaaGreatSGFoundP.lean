/-
  Plain mathematics: what is found out of verified votes can be built into a proof. No condition.
-/
import Derived.Test.YthmecidpjlaonaaGreatSGFind
import Derived.Test.YthmecidpjlaonaaGreatSBuild
namespace Go.Proofs.YthmecidpjlaonaaGreat

theorem verS_len {k : Nm} {v : Vt} {g : List UInt8} (h : verS k v g = true) : ValidP v ∧ g.length = 370 := by
  unfold verS verF at h
  rw [Bool.and_eq_true, Bool.and_eq_true] at h
  exact ⟨of_decide_eq_true h.1, of_decide_eq_true h.2.1⟩
theorem verK_parts {keys : List Nm} {v : Vt} {g : List UInt8} (h : verK keys v g = true) : 0 ≤ v.signer ∧ v.signer < (keys.length : Int) ∧ verS (keys.getD v.signer.toNat Nm.zero) v g = true := by
  unfold verK at h
  rw [Bool.and_eq_true, Bool.and_eq_true] at h
  exact ⟨of_decide_eq_true h.1, of_decide_eq_true h.2.1, h.2.2⟩
/-- What the checker asks of an element, but for the order. -/
structure GoodEv (keys : List Nm) (e : Ev) : Prop where
  enc : EEncOk e
  conf : ConfP e.a.vote e.b.vote
  less : lessV e.a.vote e.b.vote = true
  sgn0 : 0 ≤ e.a.vote.signer
  sgn9 : e.a.vote.signer ≤ 9
  lt : e.a.vote.signer < (keys.length : Int)
  va : verS (keys.getD e.a.vote.signer.toNat Nm.zero) e.a.vote e.a.sig = true
  vb : verS (keys.getD e.a.vote.signer.toNat Nm.zero) e.b.vote e.b.sig = true
theorem good_of {keys : List Nm} {l : List VS} {s : Nat} {e : Ev} (h : firstS s (cvS keys l) = some e.vs) : GoodEv keys e := by
  obtain ⟨h1, h2, h3, h4, h5⟩ := firstS_some h
  have a := verK_parts (cvS_mem h1).2
  have b := verK_parts (cvS_mem h2).2
  have hs : e.a.vote.signer = e.b.vote.signer := h4.2.1.2.2.2.2
  have hb : verS (keys.getD e.a.vote.signer.toNat Nm.zero) e.b.vote e.b.sig = true := by rw [hs]; exact b.2.2
  exact ⟨⟨verS_len a.2.2, verS_len b.2.2⟩, h4, h5 (cvS_strict keys l), a.1, h4.2.2.1.2.1.2, a.2.1, a.2.2, hb⟩
theorem found_good {keys : List Nm} {l : List VS} {E : List Ev} (h : E.map Ev.vs = findS (cvS keys l) 10) : ∀ e ∈ E, GoodEv keys e := fun e he => by
  have : e.vs ∈ findS (cvS keys l) 10 := by rw [← h]; exact List.mem_map_of_mem he
  obtain ⟨s, _, h2⟩ := findS_mem.1 this
  exact good_of h2
theorem found_asc {c : List VS} {E : List Ev} (h : E.map Ev.vs = findS c 10) : E.Pairwise fun e f => e.a.vote.signer < f.a.vote.signer := by
  have := findS_asc c 10
  rw [← h, List.pairwise_map] at this
  exact this
theorem found_len {c : List VS} {E : List Ev} (h : E.map Ev.vs = findS c 10) : E.length ≤ 10 := by
  have h1 := congrArg List.length h
  have h2 := List.length_filterMap_le (fun s => firstS s c) (List.range 10)
  rw [List.length_range] at h2
  rw [List.length_map] at h1
  unfold findS at h1
  omega
theorem found_build {keys : List Nm} {l : List VS} {E : List Ev} (h : E.map Ev.vs = findS (cvS keys l) 10) (hne : E ≠ []) : BuildOk E := by
  refine ⟨hne, found_len h, fun i e _ he => ⟨(found_good h e (List.mem_of_getElem? he)).enc, fun j d hd hj => ?_⟩⟩
  have := found_asc h
  obtain ⟨hi, rfl⟩ := List.getElem?_eq_some_iff.1 he
  obtain ⟨hj', rfl⟩ := List.getElem?_eq_some_iff.1 hd
  exact (List.pairwise_iff_getElem.1 this) j i hj' hi (by omega)
end Go.Proofs.YthmecidpjlaonaaGreat
