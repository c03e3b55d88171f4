/-
  The closed facts of the row of forensicsAccounts, one by one. No condition.
  The law ForensicsAccounts returns true and changes nothing that was there. Condition: its arguments lie in memory below the call.
  The statement ForensicsAccounts holds: if the verified votes of two lists certify unlike blocks above one parent, the proof out of the two lists is accepted and names at least a third of the committee. No condition.
-/
import Derived.Test.YthmecidpjlaonaaGreatSFactA
import Derived.Test.YthmecidpjlaonaaGreatSFactB
import Derived.Test.YthmecidpjlaonaaGreatSFactC
import Derived.Test.YthmecidpjlaonaaGreatSFactD
import Derived.Test.YthmecidpjlaonaaGreatSGAwk18
import Derived.Test.YthmecidpjlaonaaGreatSGDecd
import Derived.Test.YthmecidpjlaonaaGreatSGChkZ
import Derived.Test.YthmecidpjlaonaaGreatSGPairs9
import Derived.Deep.DeepCutAuto
import Derived.Test.YthmecidpjlaonaaGreatHOpen
import Derived.ShutString
import Derived.ChangeOld
namespace Go.Proofs.YthmecidpjlaonaaGreat.forensicsAccounts
theorem j1 : (Rows.forensicsAccountsRow.wf (OpenSpec.ofChange Rows.forensicsAccountsSpec)) = true := by kernel_rfl
theorem j2 : (laidOutB Tryz.prog) = true := fact2
theorem j3 : (mapsRowed Tryz.prog) = true := fact3
theorem j4 : (Tryz.f7.params.all (Tryz.prog.readableRec ·)) = true := by kernel_rfl
theorem j5 : (namedTie Tryz.prog Rows.forensicsAccountsRow.named Rows.forensicsAccountsSpec.vars) = true := by kernel_rfl
theorem j6 : ((Rows.forensicsAccountsRow.stops == [])) = true := by kernel_rfl
theorem j7 : ((Tryz.prog.stops == [])) = true := by kernel_rfl
theorem j8 : ((Rows.forensicsAccountsRow.knobs == [])) = true := by kernel_rfl
theorem j9 : ((Tryz.prog.stopKnobs == [])) = true := by kernel_rfl
theorem j10 : ((Rows.forensicsAccountsRow.inPlace == Tryz.prog.inPlace 7)) = true := by kernel_rfl
theorem j11 : ((Rows.forensicsAccountsRow.unfollowed == Tryz.prog.unfollowed 7)) = true := by kernel_rfl
theorem j12 : ((Rows.forensicsAccountsRow.recurses == Tryz.prog.recurses 7)) = true := by kernel_rfl
theorem j13 : ((Rows.forensicsAccountsRow.named == Tryz.prog.varsNamed 7)) = true := by kernel_rfl
theorem j14 : ((Rows.forensicsAccountsRow.maps == (Tryz.f7.params.toList ++ Rows.forensicsAccountsSpec.plain.varTypes Tryz.prog).any (Tryz.prog.mapsRec ·))) = true := by kernel_rfl
theorem j15 : ((Rows.forensicsAccountsRow.ifaces == (Tryz.f7.params.toList ++ Rows.forensicsAccountsSpec.plain.varTypes Tryz.prog).any (Tryz.prog.ifacesRec ·))) = true := by kernel_rfl
theorem j16 : ((Rows.forensicsAccountsRow.mapsOut == Tryz.prog.mapsAmong Tryz.f7.resultTypes.toList)) = true := by kernel_rfl
theorem j17 : ((Rows.forensicsAccountsRow.loops == (Tryz.f7.params.toList ++ Rows.forensicsAccountsSpec.plain.varTypes Tryz.prog).any (Tryz.prog.loopsFrom ·))) = true := by kernel_rfl
theorem j18 : ((Rows.forensicsAccountsRow.wideKeys == (Tryz.f7.params.toList ++ Rows.forensicsAccountsSpec.plain.varTypes Tryz.prog ++ Tryz.f7.resultTypes.toList).any (Tryz.prog.wideKeysFrom ·))) = true := by kernel_rfl
theorem j19 : (Rows.forensicsAccountsSpec.vars.all (Tryz.prog.varReadable ·)) = true := by kernel_rfl
theorem j20 : (Tryz.f7.resultTypes.all (fun t => Tryz.prog.readableRec t && decide (t < Tryz.prog.types.size))) = true := by kernel_rfl
theorem j21 : ((Rows.forensicsAccountsRow.ifacesOut == Tryz.f7.resultTypes.toList.any (Tryz.prog.ifacesRec ·))) = true := by kernel_rfl
theorem j22 : ((Rows.forensicsAccountsRow.loopsOut == Tryz.f7.resultTypes.toList.any (Tryz.prog.loopsFrom ·))) = true := by kernel_rfl
theorem j23 : ((Rows.forensicsAccountsRow.plainKeys == Tryz.prog.plainKeys)) = true := by kernel_rfl
theorem j24 : (Rows.forensicsAccountsRow.shortTexts.isNone) = true := by kernel_rfl
theorem j25 : (Tryz.prog.stopsHeard) = true := fact25
theorem j26 : (Tryz.prog.mayEnter) = true := fact26
theorem j27 : ((Rows.forensicsAccountsRow.lifted == Tryz.prog.liftsFinal)) = true := fact27
theorem j28 : ((Tryz.prog.make == some Rows.forensicsAccountsRow.make)) = true := fact28
theorem j29 : ((Rows.forensicsAccountsRow.kinds == (if Rows.forensicsAccountsRow.domain.isEmpty then [] else Tryz.f7.params.toList.map fun t => match Tryz.prog.underlying t with | some (.int k) => some k | _ => none))) = true := by kernel_rfl
theorem j30 : ((Rows.forensicsAccountsRow.pinned == Rows.forensicsAccountsRow.pinnedBy)) = true := by kernel_rfl
theorem j31 : ((Rows.forensicsAccountsRow.veiled == (Tryz.f7.params.toList ++ Rows.forensicsAccountsSpec.plain.varTypes Tryz.prog ++ Tryz.f7.resultTypes.toList).any (Tryz.prog.veiledRec ·))) = true := by kernel_rfl
theorem j32 : (Rows.forensicsAccountsRow.veiledFits Tryz.prog Tryz.f7.params.toList (Tryz.f7.params.toList ++ Rows.forensicsAccountsSpec.plain.varTypes Tryz.prog ++ Tryz.f7.resultTypes.toList)) = true := by kernel_rfl
set_option maxRecDepth 100000 in
theorem closed : joinedFacts Tryz.prog 7 Tryz.f7 Rows.forensicsAccountsSpec Rows.forensicsAccountsRow = true := by
  unfold joinedFacts
  exact and_t (and_t (and_t (and_t (and_t (and_t (and_t (and_t (and_t (and_t (and_t (and_t (and_t (and_t (and_t (and_t (and_t (and_t (and_t (and_t (and_t (and_t (and_t (and_t (and_t (and_t (and_t (and_t (and_t (and_t (and_t (j1) j2) j3) j4) j5) j6) j7) j8) j9) j10) j11) j12) j13) j14) j15) j16) j17) j18) j19) j20) j21) j22) j23) j24) j25) j26) j27) j28) j29) j30) j31) j32
end Go.Proofs.YthmecidpjlaonaaGreat.forensicsAccounts
namespace Go.Proofs.YthmecidpjlaonaaGreat
open Go.RowKit
theorem loadCh (p : Value) : Instr.loadAt 70 p = myLoad 70 p := rfl
theorem runCh (b o : Nat) (w : World) : (myLoad 70 (.pointer (some ⟨b, o, none⟩))).run Tryz.prog w = pickRow 70 b o w (rowAt w b o 9) := run_myLoad _ 9 b o w _ Tryz.underlying70 rfl (by kernel_rfl)
theorem Rd.chRow {w : World} {B' b o : Nat} {l : List Ch} {k : Nat} {v : Ch} (h : Rd w B' (some ⟨b, o, none⟩) (l.flatMap chc)) (hk : l[k]? = some v) : rowAt w b (o + k * 9) 9 = some v.cells := by
  have hpos := (List.getElem?_eq_some_iff.1 hk).1
  rcases h with h | ⟨b', o', e, hb, hc⟩
  · have := flat_length chc 9 l (chc_len l)
    rw [h] at this
    simp at this; omega
  · injection e with e
    injection e with e1 e2
    subst e1; subst e2
    refine rowAt_of (fun j u hu => ?_) rfl
    have hj : j < 9 := by
      have := (List.getElem?_eq_some_iff.1 hu).1
      simpa using this
    rw [Nat.add_assoc]
    refine hc _ u ?_
    rw [flat_get chc 9 l (chc_len l) k j v hk hj, ← hu]
attribute [local go_sem ↓] Go.wp_at_zero Go.wp_at_succ loadNm loadVt loadSg loadEv loadOc loadCh
attribute [local go_sem] runNm runVt runSg runEv runOc runCh pickRow_some rowAt_drew rowAt_drewN
/-- The verified votes of a list. -/
def LAof (keys : List Nm) (l : List Sg) : List Vt := (canF (canF (vfS keys (l.map Sg.vs)))).map (·.1)
theorem LAof_mem {keys : List Nm} {l : List Sg} : ∀ v ∈ LAof keys l, ∃ y ∈ l.map Sg.vs, y.1 = v ∧ verK keys y.1 y.2 = true := by
  intro v hv
  obtain ⟨y, hy, rfl⟩ := List.mem_map.1 hv
  have h1 := (canF_is _).sub y hy
  have h2 := (canF_is _).sub y h1
  unfold vfS at h2
  obtain ⟨h3, h4⟩ := List.mem_filter.1 h2
  exact ⟨y, h3, rfl, h4⟩
theorem LAof_valid {keys : List Nm} {l : List Sg} : ∀ v ∈ LAof keys l, ValidP v := fun v hv => by
  obtain ⟨y, _, rfl, h⟩ := LAof_mem v hv
  exact verK_valid h
theorem LAof_len (keys : List Nm) (l : List Sg) : (LAof keys l).length ≤ l.length := by
  unfold LAof
  rw [List.length_map]
  have h1 := canF_len (canF (vfS keys (l.map Sg.vs)))
  have h2 := canF_len (vfS keys (l.map Sg.vs))
  have h3 : (vfS keys (l.map Sg.vs)).length ≤ l.length := by
    unfold vfS
    have := List.length_filter_le (fun x : VS => verK keys x.1 x.2) (l.map Sg.vs)
    rwa [List.length_map] at this
  omega
/-- Verified, in slice form. -/
def VfN (w : World) (C : List VS) (e : Ending) (w' : World) : Prop := ∃ (L : List Sg) (A : Option Addr) (c : Nat), e = .returned (.slice A C.length c) ∧ Below w.heap.size w w' ∧ Rd w' w'.heap.size A (L.flatMap sgc) ∧ SgsOk w' w'.heap.size L ∧ L.map Sg.vs = C
theorem vf_any (K A : Option Addr) (nk ck n c : Nat) (keys : List Nm) (l : List Sg) (w : World) (hnk : keys.length = nk) (hn : l.length = n) (hK : Rd w w.heap.size K (keys.flatMap nmc)) (hr : Rd w w.heap.size A (l.flatMap sgc)) (hok : SgsOk w w.heap.size l) (hsm : n ≤ 1000000) :
    Calls Tryz.prog 9 #[.slice K nk ck, .slice A n c] w (VfN w (canF (vfS keys (l.map Sg.vs)))) := by
  refine (pvfd_any K A nk ck n c keys l w hnk hn hK hr hok hsm).mono fun e w' h => ?_
  obtain ⟨L, v, rfl, hb, hown, hk, he⟩ := h
  rw [vfd_vs] at he
  obtain ⟨A2, c2, rfl, h1, _, _, h4⟩ := own_slice hown rfl hk
  exact ⟨L, A2, c2, by rw [← he, List.length_map], hb, h1, h4, he⟩
/-- Votes, in slice form. -/
def VtN (w : World) (D : List Vt) (e : Ending) (w' : World) : Prop := ∃ (A : Option Addr) (c : Nat), e = .returned (.slice A D.length c) ∧ Below w.heap.size w w' ∧ Rd w' w'.heap.size A (D.flatMap vtc)
theorem vt_any {keys : List Nm} {l : List Sg} (A : Option Addr) (n c : Nat) (L : List Sg) (w : World) (hL : L.map Sg.vs = canF (vfS keys (l.map Sg.vs))) (hn : (canF (vfS keys (l.map Sg.vs))).length = n) (hr : Rd w w.heap.size A (L.flatMap sgc)) (hok : SgsOk w w.heap.size L) (hsm : n ≤ 1000000) :
    Calls Tryz.prog 37 #[.slice A n c] w (VtN w (LAof keys l)) := by
  have hLn : L.length = n := by rw [← hn, ← hL, List.length_map]
  refine (pvotes_any A n c L w hLn hr hok hsm).mono fun e w' h => ?_
  obtain ⟨v, rfl, hb, hown⟩ := h
  rw [hL] at hown
  rcases hown.2 with ⟨rfl, h0⟩ | ⟨g, cap, cur, rfl, _⟩
  · exact ⟨none, 0, by unfold LAof; rw [h0], hb, .inl (List.eq_nil_of_length_eq_zero (by rw [show (LAof keys l).flatMap vtc = ((canF (canF (vfS keys (l.map Sg.vs)))).map (·.1)).flatMap vtc from rfl, hown.1, h0, Nat.zero_mul]))⟩
  · exact ⟨_, cap, rfl, hb, Rd.of_own hown⟩
/-- Outcomes, in slice form. -/
def DcN (M : Int) (p : Nm) (l : List Vt) (w : World) (e : Ending) (w' : World) : Prop :=
  ∃ (A : Option Addr) (c : Nat) (L : List Oc) (b : Bool), e = .returned (.tuple #[.slice A L.length c, .bool b]) ∧ Rd w' w'.heap.size A (L.flatMap occ) ∧ Below w.heap.size w w' ∧ L.length ≤ 10 ∧ (b = true → DecL M p l 10 L ∧ 0 < L.length)
theorem DecPost.slice {M : Int} {p : Nm} {l : List Vt} {w w' : World} {e : Ending} (h : DecPost M p l w e w') : DcN M p l w e w' := by
  obtain ⟨v, L, b, rfl, hown, hb, h10, hd⟩ := h
  rcases hown.2 with ⟨rfl, h0⟩ | ⟨g, cap, cur, rfl, _⟩
  · exact ⟨none, 0, L, b, by rw [h0], .inl (List.eq_nil_of_length_eq_zero (by rw [hown.1, h0, Nat.zero_mul])), hb, h10, hd⟩
  · exact ⟨_, cap, L, b, rfl, Rd.of_own hown, hb, h10, hd⟩
def ChN (w : World) (L : List Oc) (e : Ending) (w' : World) : Prop := ∃ (A : Option Addr) (c : Nat), e = .returned (.slice A L.length c) ∧ Below w.heap.size w w' ∧ Rd w' w'.heap.size A ((L.map chOf).flatMap chc)
theorem ChPost.slice {L : List Oc} {w w' : World} {e : Ending} (h : ChPost w L e w') : ChN w L e w' := by
  obtain ⟨v, rfl, hown, hb⟩ := h
  rcases hown.2 with ⟨rfl, h0⟩ | ⟨g, cap, cur, rfl, _⟩
  · exact ⟨none, 0, by rw [h0], hb, .inl (List.eq_nil_of_length_eq_zero (by rw [hown.1, h0, Nat.zero_mul]))⟩
  · exact ⟨_, cap, rfl, hb, Rd.of_own hown⟩
/-- Where the loop over the choices stands. -/
def UnlRel (X Y : List Oc) (w : World) (uv iv : Value) (wr : World) : Prop :=
  ∃ (i : Nat) (u : Bool), iv = .int .i64 (i : Int) ∧ uv = .bool u ∧ i ≤ X.length ∧ Below w.heap.size w wr ∧ (u = true → ∃ (j : Nat) (x y : Oc), X[j]? = some x ∧ Y[j]? = some y ∧ chOf x ≠ chOf y)
theorem ES_ev (F : List ES) (h : F ≠ []) : ∃ E : List Ev, E.map Ev.vs = F ∧ E ≠ [] := by
  refine ⟨F.map fun e => ⟨⟨e.1.1, e.1.2, none, 0⟩, ⟨e.2.1, e.2.2, none, 0⟩⟩, ?_, fun h0 => h (by simpa using h0)⟩
  rw [List.map_map]
  exact List.map_id'' (fun _ => rfl) F
/-- The proof of what is found. -/
def PfN (w : World) (F : List ES) (e : Ending) (w' : World) : Prop := ∃ (A : Option Addr) (c : Nat), e = .returned (.tuple #[.slice A (1 + 786 * F.length) c, .bool true]) ∧ Below w.heap.size w w' ∧ Rd w' w'.heap.size A ((pbS F).map B) ∧ 1 + 786 * F.length ≤ c ∧ c ≤ maxLen ∧ (pbS F).length = 1 + 786 * F.length
theorem PrfPost.slice {F : List ES} {w w' : World} {e : Ending} (h : PrfPost w F e w') (hF : F ≠ []) : PfN w F e w' := by
  rcases h with ⟨_, A, c, rfl, hown, hb⟩ | ⟨h0, _⟩
  · have hl : (pbS F).length = 1 + 786 * F.length := by have := hown.1; simpa using this
    rcases hown.2 with ⟨hv, h0⟩ | ⟨g, cap, cur, hv, _, _, h1, h2, _⟩
    · omega
    · injection hv with _ _ hc
      subst hc
      exact ⟨A, c, rfl, hb, Rd.of_own hown, h1, h2, hl⟩
  · exact absurd h0 hF

set_option maxRecDepth 100000 in
set_option maxHeartbeats 16000000 in
theorem lfacc_core (K A A' : Option Addr) (nk ck n n' c m m' c' : Nat) (M : Int) (p : Nm) (keys : List Nm) (l l' : List Sg) (w0 : World) (hnk : keys.length = nk) (hn : l.length = n') (hm : l'.length = m') (hK : Rd w0 w0.heap.size K (keys.flatMap nmc)) (hr : Rd w0 w0.heap.size A (l.flatMap sgc)) (hr' : Rd w0 w0.heap.size A' (l'.flatMap sgc))
    (hok : SgsOk w0 w0.heap.size l) (hok' : SgsOk w0 w0.heap.size l') (hsmall : n' ≤ 80) (hsmall' : m' ≤ 80) (hcut : ∀ W, Calls Tryz.prog 25 #[.slice A n c] W fun e w' => e = .returned (.slice A n' c) ∧ w' = W) (hcut' : ∀ W, Calls Tryz.prog 25 #[.slice A' m c'] W fun e w' => e = .returned (.slice A' m' c') ∧ w' = W) :
    Calls Tryz.prog 7 #[.slice K nk ck, .int .i64 M, p.val, .slice A n c, .slice A' m c'] w0 fun e w' => e = .returned (.bool true) ∧ Below w0.heap.size w0 w' := by
  obtain ⟨w, hw⟩ : ∃ wa, wa = w0.alloc (.cells p.cells 29) := ⟨_, rfl⟩
  have hb0 : Below w0.heap.size w0 w := by rw [hw]; exact (Below.refl _ _).alloc (Nat.le_refl _) _
  have hBq : Blk w w0.heap.size 29 p.cells := by rw [hw]; exact Blk.new w0 _ _
  obtain ⟨q, hq⟩ : ∃ q, q = w0.heap.size := ⟨_, rfl⟩
  rw [← hq] at hBq
  have HCut := Lib.hid hcut
  have HCut' := Lib.hid hcut'
  have HAw := Lib.hid awake18_any
  have HBq : Hid (∀ V, Below w.heap.size w V → rowAt V q 0 8 = some p.cells) := fun V hV => (hBq.below hV hBq.lt).row 8 rfl
  have HW := Lib.hid hw
  have HQ := Lib.hid hq
  have r1 : Rd w w.heap.size K (keys.flatMap nmc) := (hK.below hb0).more hb0.size
  have r2 : Rd w w.heap.size A (l.flatMap sgc) := (hr.below hb0).more hb0.size
  have r3 : Rd w w.heap.size A' (l'.flatMap sgc) := (hr'.below hb0).more hb0.size
  have k2 : SgsOk w w.heap.size l := fun s hs => ⟨((hok s hs).1.below hb0).more hb0.size, (hok s hs).2⟩
  have k3 : SgsOk w w.heap.size l' := fun s hs => ⟨((hok' s hs).1.below hb0).more hb0.size, (hok' s hs).2⟩
  obtain ⟨n1, hn1⟩ : ∃ n1, n1 = (canF (vfS keys (l.map Sg.vs))).length := ⟨_, rfl⟩
  obtain ⟨m1, hm1⟩ : ∃ n1, n1 = (canF (vfS keys (l'.map Sg.vs))).length := ⟨_, rfl⟩
  obtain ⟨n2, hn2⟩ : ∃ n1, n1 = (LAof keys l).length := ⟨_, rfl⟩
  obtain ⟨m2, hm2⟩ : ∃ n1, n1 = (LAof keys l').length := ⟨_, rfl⟩
  have hv80 : ∀ (l : List Sg), l.length ≤ 80 → (canF (vfS keys (l.map Sg.vs))).length ≤ 80 := fun l h => by
    have h2 := canF_len (vfS keys (l.map Sg.vs))
    have h3 := List.length_filter_le (fun x : VS => verK keys x.1 x.2) (l.map Sg.vs)
    rw [List.length_map] at h3
    unfold vfS at h2
    unfold vfS
    omega
  have b1 : n1 ≤ 80 := by rw [hn1]; exact hv80 l (by omega)
  have b2 : m1 ≤ 80 := by rw [hm1]; exact hv80 l' (by omega)
  have b3 : n2 ≤ 80 := by have := LAof_len keys l; omega
  have b4 : m2 ≤ 80 := by have := LAof_len keys l'; omega
  have HV1 : Hid (∀ V, Below w.heap.size w V → Calls Tryz.prog 9 #[.slice K nk ck, .slice A n' c] V (fun e w' => ∃ (L : List Sg) (A : Option Addr) (c : Nat), e = .returned (.slice A n1 c) ∧ Below V.heap.size V w' ∧ Rd w' w'.heap.size A (L.flatMap sgc) ∧ SgsOk w' w'.heap.size L ∧ L.map Sg.vs = canF (vfS keys (l.map Sg.vs)))) := fun V hV => by
    rw [hn1]; exact vf_any K A nk ck n' c keys l V hnk hn ((r1.below hV).more hV.size) ((r2.below hV).more hV.size) ((k2.below hV).more hV.size) (by omega)
  have HV2 : Hid (∀ V, Below w.heap.size w V → Calls Tryz.prog 9 #[.slice K nk ck, .slice A' m' c'] V (fun e w' => ∃ (L : List Sg) (A : Option Addr) (c : Nat), e = .returned (.slice A m1 c) ∧ Below V.heap.size V w' ∧ Rd w' w'.heap.size A (L.flatMap sgc) ∧ SgsOk w' w'.heap.size L ∧ L.map Sg.vs = canF (vfS keys (l'.map Sg.vs)))) := fun V hV => by
    rw [hm1]; exact vf_any K A' nk ck m' c' keys l' V hnk hm ((r1.below hV).more hV.size) ((r3.below hV).more hV.size) ((k3.below hV).more hV.size) (by omega)
  have HT1 : Hid (∀ (A : Option Addr) (c : Nat) (L : List Sg) V, L.map Sg.vs = canF (vfS keys (l.map Sg.vs)) → Rd V V.heap.size A (L.flatMap sgc) → SgsOk V V.heap.size L → Calls Tryz.prog 37 #[.slice A n1 c] V (fun e w' => ∃ (A : Option Addr) (c : Nat), e = .returned (.slice A n2 c) ∧ Below V.heap.size V w' ∧ Rd w' w'.heap.size A ((LAof keys l).flatMap vtc))) := fun A c L V h1 h2 h3 => by
    rw [hn2]; exact vt_any (keys := keys) (l := l) A n1 c L V h1 hn1.symm h2 h3 (by omega)
  have HT2 : Hid (∀ (A : Option Addr) (c : Nat) (L : List Sg) V, L.map Sg.vs = canF (vfS keys (l'.map Sg.vs)) → Rd V V.heap.size A (L.flatMap sgc) → SgsOk V V.heap.size L → Calls Tryz.prog 37 #[.slice A m1 c] V (fun e w' => ∃ (A : Option Addr) (c : Nat), e = .returned (.slice A m2 c) ∧ Below V.heap.size V w' ∧ Rd w' w'.heap.size A ((LAof keys l').flatMap vtc))) := fun A c L V h1 h2 h3 => by
    rw [hm2]; exact vt_any (keys := keys) (l := l') A m1 c L V h1 hm1.symm h2 h3 (by omega)
  have HD1 : Hid (∀ (A : Option Addr) (c : Nat) V, Rd V V.heap.size A ((LAof keys l).flatMap vtc) → Calls Tryz.prog 36 #[.int .i64 M, p.val, .slice A n2 c] V (DcN M p (LAof keys l) V)) := fun A c V h1 => (decd_any M p A n2 c (LAof keys l) V hn2.symm h1 (by omega) LAof_valid).mono fun e w' h => h.slice
  have HD2 : Hid (∀ (A : Option Addr) (c : Nat) V, Rd V V.heap.size A ((LAof keys l').flatMap vtc) → Calls Tryz.prog 36 #[.int .i64 M, p.val, .slice A m2 c] V (DcN M p (LAof keys l') V)) := fun A c V h1 => (decd_any M p A m2 c (LAof keys l') V hm2.symm h1 (by omega) LAof_valid).mono fun e w' h => h.slice
  have HCh : Hid (∀ (A : Option Addr) (n c : Nat) (L : List Oc) V, L.length = n → n ≤ 10 → Rd V V.heap.size A (L.flatMap occ) → Calls Tryz.prog 38 #[.slice A n c] V (ChN V L)) := fun A n c L V h1 h2 h3 => (chc_any A n c L V h1 h3 (by omega)).mono fun e w' h => h.slice
  obtain ⟨g, hg⟩ : ∃ g, g = gltF keys (l.map Sg.vs ++ l'.map Sg.vs) := ⟨_, rfl⟩
  have hg10 : g < 1024 := by rw [hg]; exact gltF_lt _ _
  obtain ⟨x, hx, hmx⟩ := and_ex M g hg10
  have hmx2 : bits .and .i64 (g : Int) M = (x : Int) := by rw [and_swap]; exact hmx
  obtain ⟨FF, hFF⟩ : ∃ F, F = findS (cvS keys (l.map Sg.vs ++ l'.map Sg.vs)) 10 := ⟨_, rfl⟩
  have HPf : Hid (∀ V, FF ≠ [] → Below w.heap.size w V → Calls Tryz.prog 31 #[.slice K nk ck, .slice A n' c, .slice A' m' c'] V (PfN V FF)) := fun V hF hV => by
    have h := proof_any K A A' nk ck n' c m' c' keys l l' V hnk ((r1.below hV).more hV.size) hn hm ((r2.below hV).more hV.size) ((r3.below hV).more hV.size) (by omega) ((k2.below hV).more hV.size) ((k3.below hV).more hV.size)
    rw [List.map_append, ← hFF] at h
    exact h.mono fun e w' h => h.slice hF
  have HCk : Hid (∀ (A : Option Addr) (c : Nat) V, FF ≠ [] → Below w.heap.size w V → Rd V V.heap.size A ((pbS FF).map B) → 1 + 786 * FF.length ≤ c → c ≤ maxLen → (pbS FF).length = 1 + 786 * FF.length → Calls Tryz.prog 41 #[.slice K nk ck, .slice A (1 + 786 * FF.length) c] V (fun e w' => e = .returned (.tuple #[.int .i64 (g : Int), .int .i64 0]) ∧ Below V.heap.size V w')) := fun A c V hF hV h1 h2 h3 h4 => by
    have hE : ∃ E : List Ev, E.map Ev.vs = FF ∧ E ≠ [] := ES_ev FF hF
    obtain ⟨E, hE1, hE2⟩ := hE
    have h5 : checkF keys (buildB E E.length) = (((gltF keys (l.map Sg.vs ++ l'.map Sg.vs) : Nat) : Int), 0) := accept_found (by rw [hE1, hFF]) hE2
    rw [buildB_vs, hE1, ← hg] at h5
    exact check_core K A nk ck _ c keys (pbS FF) _ V hnk h4 ((r1.below hV).more hV.size) h1 h2 h3 h5
  have HAg : Hid (∀ V, Below w.heap.size w V → Calls Tryz.prog 33 #[.slice K nk ck, .int .i64 M, .slice A n' c, .slice A' m' c'] V (IntPost V ((popF x 10 : Nat) : Int))) := fun V hV =>
    against_any K A A' nk ck n' c m' c' M x keys l l' V hnk ((r1.below hV).more hV.size) hn hm ((r2.below hV).more hV.size) ((r3.below hV).more hV.size) (by omega) ((k2.below hV).more hV.size) ((k3.below hV).more hV.size) hx (by rw [List.map_append, ← hg]; exact hmx)
  have HG : Hid (∀ (X Y : List Oc), DecL M p (LAof keys l) 10 X → DecL M p (LAof keys l') 10 Y → (∃ (j : Nat) (a b : Oc), X[j]? = some a ∧ Y[j]? = some b ∧ chOf a ≠ chOf b) → 0 < thiF (popF (xOf M) 10) ∧ thiF (popF (xOf M) 10) ≤ popF x 10 ∧ FF ≠ []) := fun X Y h1 h2 h3 => by
    obtain ⟨j, a, b, h4, h5, h6⟩ := h3
    rw [hFF]
    exact unlike_guilty LAof_mem LAof_mem h1 h2 h4 h5 h6 hx (by rw [← hg]; exact hmx)
  obtain ⟨nq, hnq⟩ : ∃ n, n = popF (xOf M) 10 := ⟨_, rfl⟩
  have hnq10 : nq ≤ 10 := by rw [hnq]; exact popF_le _ 10
  obtain ⟨tq, htq⟩ : ∃ n, n = thiF nq := ⟨_, rfl⟩
  obtain ⟨xq, hxq⟩ : ∃ n, n = popF x 10 := ⟨_, rfl⟩
  have HSzM : Hid (∀ W, Calls Tryz.prog 40 #[.int .i64 M] W fun e w' => e = .returned (.int .i64 (nq : Int)) ∧ w' = W) := fun W => by rw [hnq]; exact csizeM_any M W
  have HTh : Hid (∀ W, Calls Tryz.prog 39 #[.int .i64 (nq : Int)] W fun e w' => e = .returned (.int .i64 (tq : Int)) ∧ w' = W) := fun W => by rw [htq]; exact third_any nq hnq10 W
  have HSzX : Hid (∀ W, Calls Tryz.prog 40 #[.int .i64 (x : Int)] W fun e w' => e = .returned (.int .i64 (xq : Int)) ∧ w' = W) := fun W => by
    have h := csizeM_any (x : Int) W
    rwa [xOf_nat x hx, ← hxq] at h
  rw [← hxq] at HAg
  rw [← hnq, ← htq, ← hxq] at HG
  have hFl : FF.length ≤ 10 := by
    rw [hFF]
    have h2 := List.length_filterMap_le (fun s => firstS s (cvS keys (l.map Sg.vs ++ l'.map Sg.vs))) (List.range 10)
    rw [List.length_range] at h2
    unfold findS
    exact h2
  clear hcut hcut' hnk hn hm hK hr hr' hok hok' hn1 hm1 hn2 hm2 hv80 r1 r2 r3 k2 k3 hg hg10 hx hFF hnq htq hxq hw hq hBq hmx
  have hb : Below w.heap.size w w := Below.refl _ _
  go_enter Tryz.func7, Tryz.ntmps7
  go_upto_region 1 with fail
  simp only [← HW.out, ← HQ.out]
  go_upto_region 2 with (first
    | (go_at_call 25; refine (HCut.out _).mono ?_; rintro en w2 ⟨rfl, hw2⟩; replace hw2 := hw2.symm; subst hw2; clear HCut)
    | (go_at_call 25; refine (HCut'.out _).mono ?_; rintro en w2 ⟨rfl, hw2⟩; replace hw2 := hw2.symm; subst hw2))
  try go_frame
  refine wp_region_noPanic ?_
  refine wp_region_held_drew (S := fun V => rowAt V q 0 8 = some p.cells) (by kernel_rfl) (HBq.out _ hb.drew) (fun hHeld => ?_)
  refine wpAnyH_takeD (some 29) (i := 0) (v := ?vh1_0) rfl rfl (by kernel_rfl) (by kernel_rfl) (by kernel_rfl) (fun _ _ _ h => h) (by rfl) ?hh1_0 (by assumption) ?_
  case hh1_0 => (intro wq hSw; (try dsimp only at hSw); go_simp; (try (with_reducible rfl)))
  go_frame
  refine wpAnyH_takeD (some 30) (i := 1) (v := ?vh1_1) rfl rfl (by kernel_rfl) (by kernel_rfl) (by kernel_rfl) (fun _ _ _ h => h) (by rfl) ?hh1_1 (by assumption) ?_
  case hh1_1 => (intro wq hSw; (try dsimp only at hSw); go_simp; (try (with_reducible rfl)))
  go_frame
  refine wpAnyH_takeD (some 31) (i := 2) (v := ?vh1_2) rfl rfl (by kernel_rfl) (by kernel_rfl) (by kernel_rfl) (fun _ _ _ h => h) (by rfl) ?hh1_2 (by assumption) ?_
  case hh1_2 => (intro wq hSw; (try dsimp only at hSw); go_simp; (try (with_reducible rfl)))
  go_frame
  refine wpAnyH_takeD (some 32) (i := 3) (v := ?vh1_3) rfl rfl (by kernel_rfl) (by kernel_rfl) (by kernel_rfl) (fun _ _ _ h => h) (by rfl) ?hh1_3 (by assumption) ?_
  case hh1_3 => (intro wq hSw; (try dsimp only at hSw); go_simp; (try (with_reducible rfl)))
  go_frame
  refine wpAnyH_ready (rs := [4]) (by kernel_rfl) (by simp) ?_
  refine AllReadyH.cons rfl (fun K hK => ?_) AllReadyH.nil
  go_simp
  refine (HV1.out _ hb.drew).mono ?_; rintro en wa1 ⟨L1, Aa1, ca1, rfl, ha1, hra1, hka1, hea1⟩; have hba1 := hb.drew.trans (ha1.mono hb.size)
  go_wp2_with fail
  refine hK.out _ _ (HBq.out _ hba1) (fun hHeld => ?_)
  clear hK K
  try go_frame
  refine wpAnyH_ready (rs := [5]) (by kernel_rfl) (by simp) ?_
  refine AllReadyH.cons rfl (fun K hK => ?_) AllReadyH.nil
  go_simp
  refine (HT1.out Aa1 ca1 L1 _ hea1 hra1 hka1).mono ?_; rintro en wb1 ⟨Ab1, cb1, rfl, hv1, hrb1⟩; have hbb1 := hba1.trans (hv1.mono hba1.size)
  go_wp2_with fail
  refine hK.out _ _ (HBq.out _ hbb1) (fun hHeld => ?_)
  clear hK K
  try go_frame
  refine wpAnyH_ready (rs := [6]) (by kernel_rfl) (by simp) ?_
  refine AllReadyH.cons rfl (fun K hK => ?_) AllReadyH.nil
  go_simp
  refine (HD1.out Ab1 cb1 _ hrb1).mono ?_; rintro en wc1 ⟨Ac1, cc1, X1, k1, rfl, hrc1, hd1, hl1, hX1⟩; have hbc1 := hbb1.trans (hd1.mono hbb1.size); have HRc1 := Lib.hid hrc1; have HX1 := Lib.hid hX1; clear hrc1 hX1
  go_wp2_with fail
  refine hK.out _ _ (HBq.out _ hbc1) (fun hHeld => ?_)
  clear hK K
  try go_frame
  refine wpAnyH_takeD (some 28) (i := 7) (v := ?vh1_7) rfl rfl (by kernel_rfl) (by kernel_rfl) (by kernel_rfl) (fun _ _ _ h => h) (by rfl) ?hh1_7 (by assumption) ?_
  case hh1_7 => (intro wq hSw; (try dsimp only at hSw); go_simp; (try (with_reducible rfl)))
  go_frame
  refine wpAnyH_takeD (some 36) (i := 8) (v := ?vh1_8) rfl rfl (by kernel_rfl) (by kernel_rfl) (by kernel_rfl) (fun _ _ _ h => h) (by rfl) ?hh1_8 (by assumption) ?_
  case hh1_8 => (intro wq hSw; (try dsimp only at hSw); go_simp; (try (with_reducible rfl)))
  go_frame
  refine wpAnyH_takeD (some 37) (i := 9) (v := ?vh1_9) rfl rfl (by kernel_rfl) (by kernel_rfl) (by kernel_rfl) (fun _ _ _ h => h) (by rfl) ?hh1_9 (by assumption) ?_
  case hh1_9 => (intro wq hSw; (try dsimp only at hSw); go_simp; (try (with_reducible rfl)))
  go_frame
  refine wpAnyH_takeD (some 11) (i := 10) (v := ?vh1_10) rfl rfl (by kernel_rfl) (by kernel_rfl) (by kernel_rfl) (fun _ _ _ h => h) (by rfl) ?hh1_10 (by assumption) ?_
  case hh1_10 => (intro wq hSw; (try dsimp only at hSw); go_simp; (try (with_reducible rfl)))
  go_frame
  refine wpAnyH_takeD (some 12) (i := 11) (v := ?vh1_11) rfl rfl (by kernel_rfl) (by kernel_rfl) (by kernel_rfl) (fun _ _ _ h => h) (by rfl) ?hh1_11 (by assumption) ?_
  case hh1_11 => (intro wq hSw; (try dsimp only at hSw); go_simp; (try (with_reducible rfl)))
  go_frame
  refine wpAnyH_done (by kernel_rfl) ?_ _
  refine NoPanic.normal ?_
  clear ha1 hra1 hka1 hea1 hv1 hrb1
  obtain ⟨nX, hnX⟩ : ∃ nX, nX = X1.length := ⟨_, rfl⟩
  rw [← hnX] at hl1 ⊢
  have HNX : Hid (X1.length = nX) := hnX.symm
  clear hnX hba1 hbb1
  go_upto_region 3 with fail
  refine wp_region_noPanic ?_
  refine wp_region_held_drew (S := fun V => rowAt V q 0 8 = some p.cells) (by kernel_rfl) (HBq.out _ hbc1.drew) (fun hHeld => ?_)
  refine wpAnyH_takeD (some 39) (i := 0) (v := ?vh2_0) rfl rfl (by kernel_rfl) (by kernel_rfl) (by kernel_rfl) (fun _ _ _ h => h) (by rfl) ?hh2_0 (by assumption) ?_
  case hh2_0 => (intro wq hSw; (try dsimp only at hSw); go_simp; (try (with_reducible rfl)))
  go_frame
  refine wpAnyH_takeD (some 40) (i := 1) (v := ?vh2_1) rfl rfl (by kernel_rfl) (by kernel_rfl) (by kernel_rfl) (fun _ _ _ h => h) (by rfl) ?hh2_1 (by assumption) ?_
  case hh2_1 => (intro wq hSw; (try dsimp only at hSw); go_simp; (try (with_reducible rfl)))
  go_frame
  refine wpAnyH_takeD (some 41) (i := 2) (v := ?vh2_2) rfl rfl (by kernel_rfl) (by kernel_rfl) (by kernel_rfl) (fun _ _ _ h => h) (by rfl) ?hh2_2 (by assumption) ?_
  case hh2_2 => (intro wq hSw; (try dsimp only at hSw); go_simp; (try (with_reducible rfl)))
  go_frame
  refine wpAnyH_takeD (some 42) (i := 3) (v := ?vh2_3) rfl rfl (by kernel_rfl) (by kernel_rfl) (by kernel_rfl) (fun _ _ _ h => h) (by rfl) ?hh2_3 (by assumption) ?_
  case hh2_3 => (intro wq hSw; (try dsimp only at hSw); go_simp; (try (with_reducible rfl)))
  go_frame
  refine wpAnyH_ready (rs := [4]) (by kernel_rfl) (by simp) ?_
  refine AllReadyH.cons rfl (fun K hK => ?_) AllReadyH.nil
  go_simp
  refine (HV2.out _ hbc1.drew).mono ?_; rintro en wa2 ⟨L2, Aa2, ca2, rfl, ha2, hra2, hka2, hea2⟩; have hba2 := hbc1.drew.trans (ha2.mono hbc1.size)
  go_wp2_with fail
  refine hK.out _ _ (HBq.out _ hba2) (fun hHeld => ?_)
  clear hK K
  try go_frame
  refine wpAnyH_ready (rs := [5]) (by kernel_rfl) (by simp) ?_
  refine AllReadyH.cons rfl (fun K hK => ?_) AllReadyH.nil
  go_simp
  refine (HT2.out Aa2 ca2 L2 _ hea2 hra2 hka2).mono ?_; rintro en wb2 ⟨Ab2, cb2, rfl, hv2, hrb2⟩; have hbb2 := hba2.trans (hv2.mono hba2.size)
  go_wp2_with fail
  refine hK.out _ _ (HBq.out _ hbb2) (fun hHeld => ?_)
  clear hK K
  try go_frame
  refine wpAnyH_ready (rs := [6]) (by kernel_rfl) (by simp) ?_
  refine AllReadyH.cons rfl (fun K hK => ?_) AllReadyH.nil
  go_simp
  refine (HD2.out Ab2 cb2 _ hrb2).mono ?_; rintro en wc2 ⟨Ac2, cc2, X2, k2, rfl, hrc2, hd2, hl2, hX2⟩; have hbc2 := hbb2.trans (hd2.mono hbb2.size); have HRc2 := Lib.hid hrc2; have HX2 := Lib.hid hX2; clear hrc2 hX2
  go_wp2_with fail
  refine hK.out _ _ (HBq.out _ hbc2) (fun hHeld => ?_)
  clear hK K
  try go_frame
  refine wpAnyH_takeD (some 38) (i := 7) (v := ?vh2_7) rfl rfl (by kernel_rfl) (by kernel_rfl) (by kernel_rfl) (fun _ _ _ h => h) (by rfl) ?hh2_7 (by assumption) ?_
  case hh2_7 => (intro wq hSw; (try dsimp only at hSw); go_simp; (try (with_reducible rfl)))
  go_frame
  refine wpAnyH_takeD (some 46) (i := 8) (v := ?vh2_8) rfl rfl (by kernel_rfl) (by kernel_rfl) (by kernel_rfl) (fun _ _ _ h => h) (by rfl) ?hh2_8 (by assumption) ?_
  case hh2_8 => (intro wq hSw; (try dsimp only at hSw); go_simp; (try (with_reducible rfl)))
  go_frame
  refine wpAnyH_takeD (some 47) (i := 9) (v := ?vh2_9) rfl rfl (by kernel_rfl) (by kernel_rfl) (by kernel_rfl) (fun _ _ _ h => h) (by rfl) ?hh2_9 (by assumption) ?_
  case hh2_9 => (intro wq hSw; (try dsimp only at hSw); go_simp; (try (with_reducible rfl)))
  go_frame
  refine wpAnyH_takeD (some 13) (i := 10) (v := ?vh2_10) rfl rfl (by kernel_rfl) (by kernel_rfl) (by kernel_rfl) (fun _ _ _ h => h) (by rfl) ?hh2_10 (by assumption) ?_
  case hh2_10 => (intro wq hSw; (try dsimp only at hSw); go_simp; (try (with_reducible rfl)))
  go_frame
  refine wpAnyH_takeD (some 14) (i := 11) (v := ?vh2_11) rfl rfl (by kernel_rfl) (by kernel_rfl) (by kernel_rfl) (fun _ _ _ h => h) (by rfl) ?hh2_11 (by assumption) ?_
  case hh2_11 => (intro wq hSw; (try dsimp only at hSw); go_simp; (try (with_reducible rfl)))
  go_frame
  refine wpAnyH_done (by kernel_rfl) ?_ _
  refine NoPanic.normal ?_
  have hd12 : Below wc1.heap.size wc1 wc2 := (((Below.refl wc1.heap.size wc1).drew.trans (ha2.mono (Nat.le_refl _))).trans (hv2.mono ha2.size)).trans (hd2.mono (Nat.le_trans ha2.size hv2.size))
  clear ha2 hra2 hka2 hea2 hv2 hrb2
  obtain ⟨nY, hnY⟩ : ∃ nY, nY = X2.length := ⟨_, rfl⟩
  rw [← hnY] at hl2 ⊢
  have HNY : Hid (X2.length = nY) := hnY.symm
  clear hnY hba2 hbb2
  have HRc1' := Lib.hid ((HRc1.out.below hd12).more hd12.size)
  clear HRc1
  cases k1 with
  | false =>
    go_upto_region 4 with fail
    go_wp2_with (go_at_call 35; refine (HAw.out _).mono ?_; rintro en w15 ⟨rfl, hb15⟩)
    go_ret
    exact ⟨rfl, hb0.trans ((hbc2.trans (hb15.mono hbc2.size)).mono hb0.size)⟩
  | true =>
    cases k2 with
    | false =>
      go_upto_region 4 with fail
      go_wp2_with (go_at_call 35; refine (HAw.out _).mono ?_; rintro en w15 ⟨rfl, hb15⟩)
      go_ret
      exact ⟨rfl, hb0.trans ((hbc2.trans (hb15.mono hbc2.size)).mono hb0.size)⟩
    | true =>
      have hLX := HX1.out rfl
      have hLY := HX2.out rfl
      have hXY : nX = nY := by
        have h1 := congrArg List.length hLX.1.1
        have h2 := congrArg List.length hLY.1.1
        rw [List.length_map, List.length_map, HNX.out] at h1
        rw [List.length_map, List.length_map, HNY.out] at h2
        omega
      subst hXY
      have HLX := Lib.hid hLX.1
      have HLY := Lib.hid hLY.1
      clear hLX hLY HX1 HX2
      go_upto_region 6 with fail
      go_wp2_with fail
      refine (HCh.out Ac1 nX cc1 X1 _ HNX.out hl1 HRc1'.out).mono ?_
      rintro en w5 ⟨A5, c5, rfl, hb5, hr5⟩
      rw [HNX.out]
      have HR5 := Lib.hid hr5
      clear hr5
      go_wp2_with fail
      refine (HCh.out Ac2 nX cc2 X2 _ HNY.out hl2 ((HRc2.out.below hb5).more hb5.size)).mono ?_
      rintro en w6 ⟨A6, c6, rfl, hb6, hr6⟩
      rw [HNY.out]
      have HR6 := Lib.hid hr6
      clear hr6
      have hbw6 := (hbc2.trans (hb5.mono hbc2.size)).trans (hb6.mono (Nat.le_trans hbc2.size hb5.size))
      have HR5' := Lib.hid ((HR5.out.below hb6).more hb6.size)
      clear HCh HRc1' HRc2 HR5 hb5 hb6
      try go_frame
      go_wp2
      go_loopw [17, 18] (fun uv iv wr => UnlRel X1 X2 w6 uv iv wr) (fun _ iv _ => nX - (intOf iv).toNat)
      case atStart => exact ⟨0, false, rfl, rfl, Nat.zero_le _, Below.refl _ _, fun h => by cases h⟩
      case round =>
        obtain ⟨i, u, rfl, rfl, hin, hbr, hu⟩ := hrel
        rw [HNX.out] at hin
        have HU := Lib.hid hu
        clear hu
        by_cases hi : i < nX
        · have di : decide ((i : Int) < (nX : Int)) = true := by simp; omega
          have i0 : (0 : Int) ≤ (i : Int) := by omega
          have i1 : (i : Int) < (nX : Int) := by omega
          cases u with
          | true =>
            go_upto_region 13 with fail
            refine wp_region_noPanic ?_
            refine wp_region_held_drew (S := fun _ => True) (by kernel_rfl) (trivial) (fun hHeld => ?_)
            refine wpAnyH_takeD (some 70) (i := 0) (v := ?vh3_0) rfl rfl (by kernel_rfl) (by kernel_rfl) (by kernel_rfl) (fun _ _ _ h => h) (by rfl) ?hh3_0 (by assumption) ?_
            case hh3_0 => (intro wq hSw; (try dsimp only at hSw); go_simp; (try (with_reducible rfl)))
            go_frame
            refine wpAnyH_takeD (some 71) (i := 1) (v := ?vh3_1) rfl rfl (by kernel_rfl) (by kernel_rfl) (by kernel_rfl) (fun _ _ _ h => h) (by rfl) ?hh3_1 (by assumption) ?_
            case hh3_1 => (intro wq hSw; (try dsimp only at hSw); go_simp; (try (with_reducible rfl)))
            go_frame
            refine wpAnyH_skipD (some 72) (i := 2) rfl rfl (by kernel_rfl) (by kernel_rfl) (by kernel_rfl) (fun _ _ _ h => h) (by rfl) (by assumption) ?_
            go_frame
            refine wpAnyH_skipD (some 73) (i := 3) rfl rfl (by kernel_rfl) (by kernel_rfl) (by kernel_rfl) (fun _ _ _ h => h) (by rfl) (by assumption) ?_
            go_frame
            refine wpAnyH_skipD (some 74) (i := 4) rfl rfl (by kernel_rfl) (by kernel_rfl) (by kernel_rfl) (fun _ _ _ h => h) (by rfl) (by assumption) ?_
            go_frame
            refine wpAnyH_skipD (some 75) (i := 5) rfl rfl (by kernel_rfl) (by kernel_rfl) (by kernel_rfl) (fun _ _ _ h => h) (by rfl) (by assumption) ?_
            go_frame
            refine wpAnyH_skipD (some 76) (i := 6) rfl rfl (by kernel_rfl) (by kernel_rfl) (by kernel_rfl) (fun _ _ _ h => h) (by rfl) (by assumption) ?_
            go_frame
            refine wpAnyH_skipD (some 77) (i := 7) rfl rfl (by kernel_rfl) (by kernel_rfl) (by kernel_rfl) (fun _ _ _ h => h) (by rfl) (by assumption) ?_
            go_frame
            refine wpAnyH_skipD (some 78) (i := 8) rfl rfl (by kernel_rfl) (by kernel_rfl) (by kernel_rfl) (fun _ _ _ h => h) (by rfl) (by assumption) ?_
            go_frame
            refine wpAnyH_skipD (some 79) (i := 9) rfl rfl (by kernel_rfl) (by kernel_rfl) (by kernel_rfl) (fun _ _ _ h => h) (by rfl) (by assumption) ?_
            go_frame
            refine wpAnyH_skipD (some 80) (i := 10) rfl rfl (by kernel_rfl) (by kernel_rfl) (by kernel_rfl) (fun _ _ _ h => h) (by rfl) (by assumption) ?_
            go_frame
            refine wpAnyH_takeD (some 81) (i := 11) (v := ?vh3_11) rfl rfl (by kernel_rfl) (by kernel_rfl) (by kernel_rfl) (fun _ _ _ h => h) (by rfl) ?hh3_11 (by assumption) ?_
            case hh3_11 => (intro wq hSw; (try dsimp only at hSw); go_simp; (try (with_reducible rfl)))
            go_frame
            refine wpAnyH_takeD (some 17) (i := 12) (v := ?vh3_12) rfl rfl (by kernel_rfl) (by kernel_rfl) (by kernel_rfl) (fun _ _ _ h => h) (by rfl) ?hh3_12 (by assumption) ?_
            case hh3_12 => (intro wq hSw; (try dsimp only at hSw); go_simp; (try (with_reducible rfl)))
            go_frame
            refine wpAnyH_done (by kernel_rfl) ?_ _
            refine NoPanic.normal ?_
            go_wp2_with fail
            go_roundw
            case rel => exact ⟨i + 1, true, by go_num, rfl, by rw [HNX.out]; omega, hbr.drew, HU.out⟩
            case measure => simp [intOf]; omega
          | false =>
            obtain ⟨a, ha⟩ : ∃ a, X1[i]? = some a := ⟨_, List.getElem?_eq_getElem (by rw [HNX.out]; exact hi)⟩
            obtain ⟨d, hd⟩ : ∃ d, X2[i]? = some d := ⟨_, List.getElem?_eq_getElem (by rw [HNY.out]; exact hi)⟩
            obtain ⟨b, o, rfl, _, _⟩ := HR5'.out.cells (by intro h0; have := flat_length chc 9 (X1.map chOf) (chc_len _); rw [h0, List.length_map, HNX.out] at this; simp at this; omega)
            obtain ⟨b', o', rfl, _, _⟩ := HR6.out.cells (by intro h0; have := flat_length chc 9 (X2.map chOf) (chc_len _); rw [h0, List.length_map, HNY.out] at this; simp at this; omega)
            obtain ⟨ea, hea⟩ : ∃ x, x = chOf a := ⟨_, rfl⟩
            obtain ⟨ed, hed⟩ : ∃ x, x = chOf d := ⟨_, rfl⟩
            have HRows : Hid (∀ V, Below w6.heap.size w6 V → rowAt V b (o + i * 9) 9 = some ea.cells ∧ rowAt V b' (o' + i * 9) 9 = some ed.cells) := fun V hV => ⟨(HR5'.out.below hV).chRow (by rw [List.getElem?_map, ha, hea]; rfl), (HR6.out.below hV).chRow (by rw [List.getElem?_map, hd, hed]; rfl)⟩
            obtain ⟨k, hk⟩ : ∃ k, k = decide (ea = ed) := ⟨_, rfl⟩
            have e1 : ∀ W, (Op.equalIn 10000 70 (.agg ea.cells) (.agg ed.cells)).run Tryz.prog W = .ok k W := fun W => by rw [hk]; exact eqCh ea ed W
            have HDf : Hid ((!k) = true → ∃ (j : Nat) (x y : Oc), X1[j]? = some x ∧ X2[j]? = some y ∧ chOf x ≠ chOf y) := fun h => ⟨i, a, d, ha, hd, by rw [← hea, ← hed]; rw [hk] at h; simpa using h⟩
            clear ha hd hea hed hk
            go_upto_region 13 with fail
            refine wp_region_noPanic ?_
            refine wp_region_held_drew (S := fun V => rowAt V b (o + i * 9) 9 = some ea.cells ∧ rowAt V b' (o' + i * 9) 9 = some ed.cells) (by kernel_rfl) (HRows.out _ hbr.drew) (fun hHeld => ?_)
            refine wpAnyH_takeD (some 70) (i := 0) (v := ?vh4_0) rfl rfl (by kernel_rfl) (by kernel_rfl) (by kernel_rfl) (fun _ _ _ h => h) (by rfl) ?hh4_0 (by assumption) ?_
            case hh4_0 => (intro wq hSw; (try dsimp only at hSw); go_simp; (try (with_reducible rfl)))
            go_frame
            refine wpAnyH_takeD (some 71) (i := 1) (v := ?vh4_1) rfl rfl (by kernel_rfl) (by kernel_rfl) (by kernel_rfl) (fun _ _ _ h => h) (by rfl) ?hh4_1 (by assumption) ?_
            case hh4_1 => (intro wq hSw; (try dsimp only at hSw); go_simp; (try (with_reducible rfl)))
            go_frame
            refine wpAnyH_takeD (some 72) (i := 2) (v := ?vh4_2) rfl rfl (by kernel_rfl) (by kernel_rfl) (by kernel_rfl) (fun _ _ _ h => h) (by rfl) ?hh4_2 (by assumption) ?_
            case hh4_2 => (intro wq hSw; (try dsimp only at hSw); go_simp; (try (with_reducible rfl)))
            go_frame
            refine wpAnyH_takeD (some 73) (i := 3) (v := ?vh4_3) rfl rfl (by kernel_rfl) (by kernel_rfl) (by kernel_rfl) (fun _ _ _ h => h) (by rfl) ?hh4_3 (by assumption) ?_
            case hh4_3 => (intro wq hSw; (try dsimp only at hSw); go_simp; (try (with_reducible rfl)))
            go_frame
            refine wpAnyH_takeD (some 74) (i := 4) (v := ?vh4_4) rfl rfl (by kernel_rfl) (by kernel_rfl) (by kernel_rfl) (fun _ _ _ h => h) (by rfl) ?hh4_4 (by assumption) ?_
            case hh4_4 => (intro wq hSw; (try dsimp only at hSw); go_simp; (try (with_reducible rfl)))
            go_frame
            refine wpAnyH_takeD (some 75) (i := 5) (v := ?vh4_5) rfl rfl (by kernel_rfl) (by kernel_rfl) (by kernel_rfl) (fun _ _ _ h => h) (by rfl) ?hh4_5 (by assumption) ?_
            case hh4_5 => (intro wq hSw; (try dsimp only at hSw); go_simp; (try (with_reducible rfl)))
            go_frame
            refine wpAnyH_takeD (some 76) (i := 6) (v := ?vh4_6) rfl rfl (by kernel_rfl) (by kernel_rfl) (by kernel_rfl) (fun _ _ _ h => h) (by rfl) ?hh4_6 (by assumption) ?_
            case hh4_6 => (intro wq hSw; (try dsimp only at hSw); go_simp; (try (with_reducible rfl)))
            go_frame
            refine wpAnyH_takeD (some 77) (i := 7) (v := ?vh4_7) rfl rfl (by kernel_rfl) (by kernel_rfl) (by kernel_rfl) (fun _ _ _ h => h) (by rfl) ?hh4_7 (by assumption) ?_
            case hh4_7 => (intro wq hSw; (try dsimp only at hSw); go_simp; (try (with_reducible rfl)))
            go_frame
            refine wpAnyH_takeD (some 78) (i := 8) (v := ?vh4_8) rfl rfl (by kernel_rfl) (by kernel_rfl) (by kernel_rfl) (fun _ _ _ h => h) (by rfl) ?hh4_8 (by assumption) ?_
            case hh4_8 => (intro wq hSw; (try dsimp only at hSw); go_simp; (try (with_reducible rfl)))
            go_frame
            refine wpAnyH_takeD (some 79) (i := 9) (v := ?vh4_9) rfl rfl (by kernel_rfl) (by kernel_rfl) (by kernel_rfl) (fun _ _ _ h => h) (by rfl) ?hh4_9 (by assumption) ?_
            case hh4_9 => (intro wq hSw; (try dsimp only at hSw); go_simp; (try (with_reducible rfl)))
            go_frame
            refine wpAnyH_takeD (some 80) (i := 10) (v := ?vh4_10) rfl rfl (by kernel_rfl) (by kernel_rfl) (by kernel_rfl) (fun _ _ _ h => h) (by rfl) ?hh4_10 (by assumption) ?_
            case hh4_10 => (intro wq hSw; (try dsimp only at hSw); go_simp; (try (with_reducible rfl)))
            go_frame
            refine wpAnyH_takeD (some 81) (i := 11) (v := ?vh4_11) rfl rfl (by kernel_rfl) (by kernel_rfl) (by kernel_rfl) (fun _ _ _ h => h) (by rfl) ?hh4_11 (by assumption) ?_
            case hh4_11 => (intro wq hSw; (try dsimp only at hSw); go_simp; (try (with_reducible rfl)))
            go_frame
            refine wpAnyH_takeD (some 17) (i := 12) (v := ?vh4_12) rfl rfl (by kernel_rfl) (by kernel_rfl) (by kernel_rfl) (fun _ _ _ h => h) (by rfl) ?hh4_12 (by assumption) ?_
            case hh4_12 => (intro wq hSw; (try dsimp only at hSw); go_simp; (try (with_reducible rfl)))
            go_frame
            refine wpAnyH_done (by kernel_rfl) ?_ _
            refine NoPanic.normal ?_
            go_wp2_with fail
            go_roundw
            case rel => exact ⟨i + 1, !k, by go_num, rfl, by rw [HNX.out]; omega, hbr.drew, HDf.out⟩
            case measure => simp [intOf]; omega
        · have di : decide ((i : Int) < (nX : Int)) = false := by simp; omega
          have hbw7 := hbw6.trans (hbr.mono hbw6.size)
          cases u with
          | false =>
            go_wp2_with (go_at_call 35; refine (HAw.out _).mono ?_; rintro en w15 ⟨rfl, hb15⟩)
            go_ret
            exact ⟨rfl, hb0.trans ((hbw7.trans (hb15.mono hbw7.size)).mono hb0.size)⟩
          | true =>
            obtain ⟨t1, t2, t3⟩ := HG.out X1 X2 HLX.out HLY.out (HU.out rfl)
            have HF := Lib.hid t3
            have HPf' := Lib.hid (HPf.out _ t3 hbw7)
            have dq1 : decide ((tq : Int) ≤ (xq : Int)) = true := by simp; omega
            have dq2 : decide (0 < (tq : Int)) = true := by simp; omega
            clear t3 HR5' HR6 HPf HG HLX HLY HU
            go_upto_region 18 with (first
              | (go_at_call 40; refine (HSzM.out _).mono ?_; rintro en w8 ⟨rfl, hw8⟩; replace hw8 := hw8.symm; subst hw8)
              | (go_at_call 39; refine (HTh.out _).mono ?_; rintro en w8 ⟨rfl, hw8⟩; replace hw8 := hw8.symm; subst hw8)
              | (go_at_call 31; refine HPf'.out.mono ?_; rintro en w9 ⟨A9, c9, rfl, hb9, hr9, hc9, hm9, hp9⟩))
            have hbw9 := hbw7.trans (hb9.mono hbw7.size)
            have HCk' := Lib.hid (HCk.out A9 c9 w9 HF.out hbw9 hr9 hc9 hm9 hp9)
            obtain ⟨nF, hnF⟩ : ∃ n, n = 1 + 786 * FF.length := ⟨_, rfl⟩
            rw [← hnF] at HCk' ⊢
            clear hr9 hc9 hm9 hp9 HCk HPf' hnF
            try go_frame
            go_wp2_with (first
              | (go_at_call 41; refine HCk'.out.mono ?_; rintro en w10 ⟨rfl, hb10⟩; have hbw10 := hbw9.trans (hb10.mono hbw9.size))
              | (go_at_call 40; refine (HSzX.out _).mono ?_; rintro en w11 ⟨rfl, hw11⟩; replace hw11 := hw11.symm; subst hw11)
              | (go_at_call 33; refine (HAg.out _ hbw10).mono ?_; rintro en w12 ⟨rfl, hb12⟩; have hbw12 := hbw10.trans (hb12.mono hbw10.size))
              | (go_at_call 35; refine (HAw.out _).mono ?_; rintro en w15 ⟨rfl, hb15⟩))
            go_ret
            exact ⟨rfl, hb0.trans ((hbw12.trans (hb15.mono hbw12.size)).mono hb0.size)⟩

theorem lfacc_any (K A A' : Option Addr) (ck c c' : Nat) (M : Int) (p : Nm) (keys : List Nm) (l l' : List Sg) (w : World) (hK : Rd w w.heap.size K (keys.flatMap nmc)) (hr : Rd w w.heap.size A (l.flatMap sgc)) (hr' : Rd w w.heap.size A' (l'.flatMap sgc)) (hok : SgsOk w w.heap.size l) (hok' : SgsOk w w.heap.size l') (hc : l.length ≤ c) (hc' : l'.length ≤ c') :
    Calls Tryz.prog 7 #[.slice K keys.length ck, .int .i64 M, p.val, .slice A l.length c, .slice A' l'.length c'] w fun e w' => e = .returned (.bool true) ∧ Below w.heap.size w w' :=
  have some18 : ∀ {B : Option Addr} {L : List Sg}, Rd w w.heap.size B (L.flatMap sgc) → 80 < L.length → B ≠ none := fun {B L} h1 h2 => by
    obtain ⟨b, o, rfl, _⟩ := h1.cells (by intro e; have := flat_length sgc 23 L (sgc_len L); rw [e] at this; simp at this; omega)
    simp
  lfacc_core K A A' keys.length ck l.length (min l.length 80) c l'.length (min l'.length 80) c' M p keys (l.take 80) (l'.take 80) w rfl (by rw [List.length_take]; omega) (by rw [List.length_take]; omega) hK (hr.sgTake 80) (hr'.sgTake 80) (hok.sub (fun s hs => List.mem_of_mem_take hs)) (hok'.sub (fun s hs => List.mem_of_mem_take hs)) (by omega) (by omega)
    (fun W => cut18_any A l.length c W (some18 hr) hc) (fun W => cut18_any A' l'.length c' W (some18 hr') hc')
end Go.Proofs.YthmecidpjlaonaaGreat
namespace Go.Proofs.YthmecidpjlaonaaGreat.forensicsAccounts
open Go.ChangeShapes Go.WideShapes Go.ChangeAt Go.RowKit

theorem own : ownKnob Tryz.prog.godebug = none := by kernel_rfl
theorem laidOut : laidOutB Tryz.prog = true := by kernel_rfl

set_option maxRecDepth 100000 in
set_option maxHeartbeats 1000000 in
theorem lifted (os : Os) (started : os.Started) (H : Type) (enc : TypeId × Value → H) :
    ReturnsInHanded {} Tryz.checked os 7 .any (Rows.forensicsAccountsSpec.pre6 enc Tryz.prog Tryz.f7 Rows.forensicsAccountsRow.domain false) (Rows.forensicsAccountsSpec.post enc Tryz.prog Tryz.f7 false true false false) := by
  refine returnsInHanded_of_change_sized (C := Tryz.checked) own started (by kernel_rfl) Tryz.func7
    (ChangeSpec.witness6 (enc := enc) (C := Tryz.checked) false ⟨#[], #[.slice none 0 0, .int .i64 0, .agg #[.int .u8 0, .int .u8 0, .int .u8 0, .int .u8 0, .int .u8 0, .int .u8 0, .int .u8 0, .int .u8 0], .slice none 0 0, .slice none 0 0], []⟩ 8 (by kernel_rfl) (by kernel_rfl) (by kernel_rfl) (by kernel_rfl)) ?_
  intro W base args ds gs before hval0 hW hcnd hsz0 _
  have hval : ∀ (j : Nat) t v, Tryz.f7.params[j]? = some t → args[j]? = some v → Value.okWide Tryz.prog W .any base t v := hval0
  have hW' := hW
  obtain ⟨p, q, hA0, hV, rfl, hfz, hnd⟩ := hW
  have hA : DataW.TrodAll enc Tryz.prog W 0 (fun _ => true) true Tryz.f7.params.toList args.toList ds p := hA0
  have hsz : (DataW.weightsEach Tryz.prog (Tryz.f7.params.toList ++ Rows.forensicsAccountsSpec.plain.varTypes Tryz.prog) (ds ++ gs)).all (· ≤ reachBytes) = true := hsz0
  rw [Tryz.params7] at hA hval hsz
  obtain ⟨v0, vs0, d0, ds0, p0, q0, hargs, rfl, rfl, h0, r0⟩ := trodAll_cons hA
  obtain ⟨v1, vs1, d1, ds1, p1, q1, ha1, rfl, rfl, h1, r1⟩ := trodAll_cons r0
  subst ha1
  obtain ⟨v2, vs2, d2, ds2, p2, q2, ha2, rfl, rfl, h2, r2⟩ := trodAll_cons r1
  subst ha2
  obtain ⟨v3, vs3, d3, ds3, p3, q3, ha3, rfl, rfl, h3, r3⟩ := trodAll_cons r2
  subst ha3
  obtain ⟨v4, vs4, d4, ds4, p4, q4, ha4, rfl, rfl, h4, r4⟩ := trodAll_cons r3
  subst ha4
  obtain ⟨rfl, rfl, rfl⟩ := trodAll_nil r4
  obtain rfl : args = #[v0, v1, v2, v3, v4] := by cases args; simp_all
  obtain ⟨rfl, rfl⟩ := trodVars_none hV
  have hwt : ∀ k ∈ DataW.weightsEach Tryz.prog ([22, 27, 29, 23, 23] ++ Rows.forensicsAccountsSpec.plain.varTypes Tryz.prog) ([d0, d1, d2, d3, d4] ++ []), k ≤ reachBytes := fun k hk => by simpa using List.all_eq_true.1 hsz k hk
  have k0 := h0
  have lt0 : ∀ x ∈ p0, x.block < W.heap.size := by obtain ⟨m, hm⟩ := k0; exact DataW.trod_lt m _ _ _ hm
  obtain ⟨A0, l0, cap0, hv0, hr0, _, hl0, hm0, _⟩ : ∃ (A : Option Addr) (l : List Nm) (cap : Nat), v0.cells.toList = [.slice A l.length cap] ∧ Rd W W.heap.size A (l.flatMap nmc) ∧ (∀ a ∈ l, True) ∧ l.length ≤ cap ∧ cap ≤ maxLen ∧ l.length * Tryz.prog.bytesOf 29 ≤ reachBytes := by
    obtain ⟨fuel, hf⟩ := h0
    exact open_list nmc 8 (fun _ => True) Tryz.underlying22 cells39 (by omega) (fun n cs x h _ => by obtain ⟨nm, e⟩ := open_name h; exact ⟨nm, e, trivial⟩) (fun _ => rfl) hf (mem_weightsEach hwt (j := 0) (t := 22) rfl rfl)
  obtain ⟨a0, len0, c0, rfl⟩ := okWide_slice Tryz.underlying22 (hval 0 22 v0 rfl rfl)
  simp [Value.cells] at hv0
  obtain ⟨rfl, rfl, rfl⟩ := hv0
  have k1 := h1
  have lt1 : ∀ x ∈ p1, x.block < W.heap.size := by obtain ⟨m, hm⟩ := k1; exact DataW.trod_lt m _ _ _ hm
  obtain ⟨n1, hv1, _, hw1⟩ : ∃ n : Int, v1.cells.toList = [.int .i64 n] ∧ True ∧ (Lit.int .i64 n).wf = true := by
    obtain ⟨fuel, hf⟩ := h1
    obtain ⟨n, e, _, hw⟩ := DataW.trod_int Tryz.underlying27 hf
    exact ⟨n, e, trivial, hw⟩
  obtain ⟨m1, rfl⟩ := okWide_int Tryz.underlying27 (hval 1 27 v1 rfl rfl)
  simp [Value.cells] at hv1
  subst hv1
  have k2 := h2
  have lt2 : ∀ x ∈ p2, x.block < W.heap.size := by obtain ⟨m, hm⟩ := k2; exact DataW.trod_lt m _ _ _ hm
  obtain ⟨s2, hv2⟩ : ∃ s : Nm, v2.cells.toList = s.cells.toList := by
    obtain ⟨fuel, hf⟩ := h2
    exact open_name hf
  obtain ⟨cs2, hag2⟩ := okWide_array Tryz.underlying29 (hval 2 29 v2 rfl rfl)
  obtain rfl := agg_of hag2 hv2
  clear hag2 hv2
  have k3 := h3
  have lt3 : ∀ x ∈ p3, x.block < W.heap.size := by obtain ⟨m, hm⟩ := k3; exact DataW.trod_lt m _ _ _ hm
  obtain ⟨A3, l3, cap3, hv3, hr3, hok3, hl3, hm3, _⟩ : ∃ (A : Option Addr) (l : List Sg) (cap : Nat), v3.cells.toList = [.slice A l.length cap] ∧ Rd W W.heap.size A (l.flatMap sgc) ∧ (∀ a ∈ l, SgOk W W.heap.size a ∧ SgCap a) ∧ l.length ≤ cap ∧ cap ≤ maxLen ∧ l.length * Tryz.prog.bytesOf 34 ≤ reachBytes := by
    obtain ⟨fuel, hf⟩ := h3
    exact open_list sgc 23 (fun a => SgOk W W.heap.size a ∧ SgCap a) Tryz.underlying23 cells43 (by omega) (fun n cs x h hw => open_signed2 h hw) (fun e => by simp [sgc, Sg.size_cells]) hf (mem_weightsEach hwt (j := 3) (t := 23) rfl rfl)
  obtain ⟨a3, len3, c3, rfl⟩ := okWide_slice Tryz.underlying23 (hval 3 23 v3 rfl rfl)
  simp [Value.cells] at hv3
  obtain ⟨rfl, rfl, rfl⟩ := hv3
  have k4 := h4
  have lt4 : ∀ x ∈ p4, x.block < W.heap.size := by obtain ⟨m, hm⟩ := k4; exact DataW.trod_lt m _ _ _ hm
  obtain ⟨A4, l4, cap4, hv4, hr4, hok4, hl4, hm4, _⟩ : ∃ (A : Option Addr) (l : List Sg) (cap : Nat), v4.cells.toList = [.slice A l.length cap] ∧ Rd W W.heap.size A (l.flatMap sgc) ∧ (∀ a ∈ l, SgOk W W.heap.size a ∧ SgCap a) ∧ l.length ≤ cap ∧ cap ≤ maxLen ∧ l.length * Tryz.prog.bytesOf 34 ≤ reachBytes := by
    obtain ⟨fuel, hf⟩ := h4
    exact open_list sgc 23 (fun a => SgOk W W.heap.size a ∧ SgCap a) Tryz.underlying23 cells43 (by omega) (fun n cs x h hw => open_signed2 h hw) (fun e => by simp [sgc, Sg.size_cells]) hf (mem_weightsEach hwt (j := 4) (t := 23) rfl rfl)
  obtain ⟨a4, len4, c4, rfl⟩ := okWide_slice Tryz.underlying23 (hval 4 23 v4 rfl rfl)
  simp [Value.cells] at hv4
  obtain ⟨rfl, rfl, rfl⟩ := hv4
  clear hA0 hval0
  refine (lfacc_any a0 a3 a4 c0 c3 c4 m1 s2 l0 l3 l4 W hr0 hr3 hr4 hok3 hok4 hl3 hl4).mono fun e W' ⟨he, bel⟩ => ?_
  subst he
  exact ⟨_, rfl, _, _, _, [], _, [], hW', trodAll_mk1 (shut_bool Tryz.underlying4 _), (trodAll_cons_mk (Below.trod laidOut (by kernel_rfl) (of_decide_eq_true (by kernel_rfl)) k0 bel lt0) (trodAll_cons_mk (Below.trod laidOut (by kernel_rfl) (of_decide_eq_true (by kernel_rfl)) k1 bel lt1) (trodAll_cons_mk (Below.trod laidOut (by kernel_rfl) (of_decide_eq_true (by kernel_rfl)) k2 bel lt2) (trodAll_cons_mk (Below.trod laidOut (by kernel_rfl) (of_decide_eq_true (by kernel_rfl)) k3 bel lt3) (trodAll_cons_mk (Below.trod laidOut (by kernel_rfl) (of_decide_eq_true (by kernel_rfl)) k4 bel lt4) trodAll_mk0))))), rfl, bel.frame _, fun h => by cases h⟩

theorem over : Rows.forensicsAccountsRow.holds Tryz.pinned (OpenSpec.ofChange Rows.forensicsAccountsSpec) :=
  OpenClaim.holds_of_wide 7 Tryz.f7 rfl rfl rfl rfl rfl rfl rfl ⟨rfl, rfl, rfl, rfl, rfl⟩ rfl rfl rfl rfl rfl (by kernel_rfl) Tryz.func7 closed
    (of_decide_eq_true (by kernel_rfl)) (by unfold Func.isWrapper; first | (rw [if_pos (by decide +kernel)]; kernel_rfl) | (rw [if_neg (by decide +kernel)]; exact ⟨rfl, rfl⟩))
    (fun os started H enc _ => lifted os started H enc)

theorem proved : Rows.ForensicsAccountsSaid := over
end Go.Proofs.YthmecidpjlaonaaGreat.forensicsAccounts
