/-
  Plain mathematics of signing: the seeds, the trees, roots and paths, the signature of a leaf; a signature verifies under the key's public name. No condition.
  onetime.start, Public and Sign return the value at position 0 of a chain (startF), the public name of a one-time key (opubF) and a one-time signature (osignF), and change nothing that was there. Condition: the chain's number is small.
  merkle.Root and the reference's Root return the root of 2^d names (rootF), and change nothing that was there. Condition: the names lie in memory below the call.
  merkle.climb and Path return the path of name i of 2^d names (pathF), and change nothing that was there. Condition: the names lie in memory below the call.
-/
import Derived.Test.YthmecidpjlaonaaGreatGOne
import Derived.Test.YthmecidpjlaonaaGreatGRec
import Derived.Deep.DeepCutAuto
import Derived.Test.YthmecidpjlaonaaGreatGSVer
import Derived.Test.YthmecidpjlaonaaGreatGFol
namespace Go.Proofs.YthmecidpjlaonaaGreat
open Go.RowKit

/-- The value at position 0 of chain c. -/
def startF (seed : Nm) (c : Nat) : Nm := sumF (32 :: (seed.bytes ++ [UInt8.ofNat c]))
/-- The end of chain c. -/
def chainEnd (seed : Nm) (c : Nat) : Nm := walkF (startF seed c) c 0 15
/-- The public name of a one-time key. -/
def opubF (seed : Nm) : Nm := pubF ((List.range 18).map (chainEnd seed))
/-- What a one-time signature has of chain c. -/
def chainAt (seed m : Nm) (c : Nat) : Nm := walkF (startF seed c) c 0 ((digits m).getD c 0)
/-- A one-time signature. -/
def osignF (seed m : Nm) : List Nm := (List.range 18).map (chainAt seed m)
/-- The seed of key j of a tree. -/
def seedF (s : Nm) (level number j : Nat) : Nm := sumF (48 :: (s.bytes ++ [UInt8.ofNat level, UInt8.ofNat (number / 256), UInt8.ofNat number, UInt8.ofNat j]))
/-- The public name of key j of a tree. -/
def leafAt (s : Nm) (level number j : Nat) : Nm := opubF (seedF s level number j)
/-- The public names of a tree. -/
def treeF (s : Nm) (level number : Nat) : List Nm := (List.range 32).map (leafAt s level number)
/-- The root of 2^d names. -/
def rootF : Nat → List Nm → Nm
  | 0, l => leafF (l.getD 0 Nm.zero)
  | d + 1, l => pairF 18 (rootF d (l.take (2 ^ d))) (rootF d (l.drop (2 ^ d)))
/-- The path of name i of 2^d names. -/
def pathF : Nat → Nat → List Nm → List Nm
  | 0, _, _ => []
  | d + 1, i, l => if i < 2 ^ d then pathF d i (l.take (2 ^ d)) ++ [rootF d (l.drop (2 ^ d))] else pathF d (i - 2 ^ d) (l.drop (2 ^ d)) ++ [rootF d (l.take (2 ^ d))]
/-- A part of a signature. -/
def partF (s : Nm) (level number j : Nat) (m : Nm) : List UInt8 := (osignF (seedF s level number j) m ++ pathF 5 j (treeF s level number)).flatMap Nm.bytes
/-- The signature of m by a leaf. -/
def sigF (s : Nm) (leaf : Nat) (m : Nm) : List UInt8 :=
  [UInt8.ofNat (leaf / 256), UInt8.ofNat leaf] ++ partF s 1 (leaf / 32) (leaf % 32) m ++ partF s 2 0 (leaf / 32) (rootF 5 (treeF s 1 (leaf / 32)))
/-- The public name of a key. -/
def keyF (s : Nm) : Nm := rootF 5 (treeF s 2 0)

theorem osignF_len (seed m : Nm) : (osignF seed m).length = 18 := by simp [osignF]
theorem treeF_len (s : Nm) (level number : Nat) : (treeF s level number).length = 32 := by simp [treeF]
theorem pathF_len : ∀ (d i : Nat) (l : List Nm), (pathF d i l).length = d
  | 0, _, _ => rfl
  | d + 1, i, l => by
    rw [pathF]
    split <;> simp [pathF_len d]
theorem fbytes_len (l : List Nm) : (l.flatMap Nm.bytes).length = 8 * l.length := by
  induction l with
  | nil => rfl
  | cons a r ih => rw [List.flatMap_cons, List.length_append, ih, List.length_cons]; simp [Nm.bytes]; omega
theorem partF_len (s : Nm) (level number j : Nat) (m : Nm) : (partF s level number j m).length = 184 := by
  rw [partF, fbytes_len, List.length_append, osignF_len, pathF_len]
theorem sigF_len (s : Nm) (leaf : Nat) (m : Nm) : (sigF s leaf m).length = 370 := by
  rw [sigF, List.length_append, List.length_append, partF_len, partF_len]; rfl

theorem walk_walk (v : Nm) (c p n : Nat) : ∀ k, walkF (walkF v c p n) c (p + n) k = walkF v c p (n + k)
  | 0 => rfl
  | k + 1 => by
    rw [walkF, walk_walk v c p n k, ← Nat.add_assoc, walkF, Nat.add_assoc p n k]
theorem rec_sign (seed m : Nm) : recF m (osignF seed m) = opubF seed := by
  rw [recF, opubF]
  congr 1
  apply List.map_congr_left
  intro c hc
  have hc18 : c < 18 := by simpa using hc
  have hd : (digits m).getD c 0 ≤ 15 := by
    have hl := digits_length m
    rw [List.getD_eq_getElem?_getD, List.getElem?_eq_getElem (by omega)]
    exact digits_le m _ (List.getElem_mem _)
  have h1 : (osignF seed m).getD c Nm.zero = chainAt seed m c := by
    rw [List.getD_eq_getElem?_getD, osignF, List.getElem?_map, List.getElem?_range hc18]; rfl
  rw [endF, h1, chainAt, chainEnd]
  generalize (digits m).getD c 0 = d at *
  have h2 := walk_walk (startF seed c) c 0 d (15 - d)
  rw [Nat.zero_add] at h2
  rw [h2, show d + (15 - d) = 15 from by omega]
theorem follow_app (leaf : Nm) (d i : Nat) (p q : List Nm) (h : p.length = d) : followF leaf d i (p ++ q) = followF leaf d i p := by
  have h1 := followF_take leaf d i d (p ++ q) (Nat.le_refl _)
  rw [List.take_left' h] at h1
  exact h1.symm
theorem follow_path : ∀ (d i : Nat) (l : List Nm) (leaf : Nm), l.length = 2 ^ d → l[i]? = some leaf → followF leaf d i (pathF d i l) = rootF d l
  | 0, i, l, leaf, hl, hi => by
    have h0 : i < 1 := by
      have := (List.getElem?_eq_some_iff.1 hi).1
      rw [hl] at this; simpa using this
    obtain rfl : i = 0 := by omega
    rw [followF, rootF, List.getD_eq_getElem?_getD, hi]; rfl
  | d + 1, i, l, leaf, hl, hi => by
    have hp : 2 ^ (d + 1) = 2 ^ d + 2 ^ d := by rw [Nat.pow_succ]; omega
    have hil := (List.getElem?_eq_some_iff.1 hi).1
    have last : ∀ (p : List Nm) (x : Nm), p.length = d → (p ++ [x]).getD d Nm.zero = x := fun p x h => by
      rw [List.getD_eq_getElem?_getD, List.getElem?_append_right (by omega), h]; simp
    rw [pathF, rootF]
    split
    · rename_i h
      rw [followF, if_pos h, follow_app leaf d i _ _ (pathF_len d i _), last _ _ (pathF_len d i _),
        follow_path d i (l.take (2 ^ d)) leaf (by rw [List.length_take]; omega) (by rw [List.getElem?_take, if_pos h]; exact hi)]
    · rename_i h
      rw [followF, if_neg h, follow_app leaf d _ _ _ (pathF_len d _ _), last _ _ (pathF_len d _ _),
        follow_path d (i - 2 ^ d) (l.drop (2 ^ d)) leaf (by rw [List.length_drop]; omega) (by rw [List.getElem?_drop, show 2 ^ d + (i - 2 ^ d) = i from by omega]; exact hi)]

theorem ofList_bytes (x : Nm) (r : List UInt8) : Nm.ofList (x.bytes ++ r) = x := by simp [Nm.ofList, Nm.bytes]
theorem nameAt_flat : ∀ (l : List Nm) (pre suf : List UInt8) (k : Nat) (x : Nm), l[k]? = some x → nameAt (pre ++ (l.flatMap Nm.bytes ++ suf)) (pre.length + 8 * k) = x
  | [], _, _, _, _, h => by simp at h
  | y :: r, pre, suf, 0, x, h => by
    simp at h; subst h
    rw [nameAt, Nat.mul_zero, Nat.add_zero, List.drop_left, List.flatMap_cons, List.append_assoc, ofList_bytes]
  | y :: r, pre, suf, k + 1, x, h => by
    have h1 := nameAt_flat r (pre ++ y.bytes) suf k x (by simpa using h)
    rw [List.flatMap_cons]
    rw [List.append_assoc, List.length_append] at h1
    have e : pre.length + y.bytes.length + 8 * k = pre.length + 8 * (k + 1) := by simp [Nm.bytes]; omega
    rw [e] at h1
    rw [List.append_assoc]
    exact h1
theorem namesF_flat (l : List Nm) (pre suf : List UInt8) : namesF (pre ++ (l.flatMap Nm.bytes ++ suf)) pre.length l.length = l := by
  apply List.ext_getElem?
  intro k
  by_cases hk : k < l.length
  · rw [namesF, List.getElem?_map, List.getElem?_range hk, Option.map_some, nameAt_flat l pre suf k l[k] (List.getElem?_eq_getElem hk), List.getElem?_eq_getElem hk]
  · rw [List.getElem?_eq_none (by simpa [namesF] using hk), List.getElem?_eq_none (by omega)]
theorem treeF_get (s : Nm) (level number j : Nat) (h : j < 32) : (treeF s level number)[j]? = some (leafAt s level number j) := by
  rw [treeF, List.getElem?_map, List.getElem?_range h]; rfl
theorem climb_part (s : Nm) (level number j : Nat) (m : Nm) (pre suf : List UInt8) (at_ : Nat) (hj : j < 32) (hat : pre.length = at_) :
    climbF (pre ++ (partF s level number j m ++ suf)) at_ j m = rootF 5 (treeF s level number) := by
  subst hat
  have e1 : namesF (pre ++ (partF s level number j m ++ suf)) pre.length 18 = osignF (seedF s level number j) m := by
    have h := namesF_flat (osignF (seedF s level number j) m) pre ((pathF 5 j (treeF s level number)).flatMap Nm.bytes ++ suf)
    rw [osignF_len] at h
    rw [partF, List.flatMap_append, List.append_assoc]
    exact h
  have e2 : namesF (pre ++ (partF s level number j m ++ suf)) (pre.length + 144) 5 = pathF 5 j (treeF s level number) := by
    have h := namesF_flat (pathF 5 j (treeF s level number)) (pre ++ (osignF (seedF s level number j) m).flatMap Nm.bytes) suf
    rw [pathF_len, List.length_append, fbytes_len, osignF_len, List.append_assoc] at h
    rw [partF, List.flatMap_append, List.append_assoc]
    exact h
  rw [climbF, e1, e2, rec_sign]
  exact follow_path 5 j (treeF s level number) (leafAt s level number j) (treeF_len s level number) (treeF_get s level number j hj)
theorem leafN_sig (s : Nm) (leaf : Nat) (m : Nm) (h : leaf < 1024) : leafN (sigF s leaf m) = leaf := by
  have e : sigF s leaf m = UInt8.ofNat (leaf / 256) :: UInt8.ofNat leaf :: (partF s 1 (leaf / 32) (leaf % 32) m ++ partF s 2 0 (leaf / 32) (rootF 5 (treeF s 1 (leaf / 32)))) := by rw [sigF]; simp
  rw [leafN, e]
  simp only [List.getD_cons_zero, List.getD_cons_succ, UInt8.toNat_ofNat']
  omega
/-- A signature verifies under the public name of its key. -/
theorem ver_sign (s : Nm) (leaf : Nat) (m : Nm) (h : leaf < 1024) : verF (keyF s) m (sigF s leaf m) = true := by
  have e1 : climbF (sigF s leaf m) 2 (leaf % 32) m = rootF 5 (treeF s 1 (leaf / 32)) := by
    rw [sigF, List.append_assoc]
    exact climb_part s 1 (leaf / 32) (leaf % 32) m _ _ 2 (Nat.mod_lt _ (by omega)) rfl
  have e2 : ∀ x, x = rootF 5 (treeF s 1 (leaf / 32)) → climbF (sigF s leaf m) 186 (leaf / 32) x = keyF s := by
    rintro x rfl
    have h := climb_part s 2 0 (leaf / 32) (rootF 5 (treeF s 1 (leaf / 32))) ([UInt8.ofNat (leaf / 256), UInt8.ofNat leaf] ++ partF s 1 (leaf / 32) (leaf % 32) m) [] 186 (by omega) (by rw [List.length_append, partF_len]; rfl)
    rw [List.append_nil] at h
    exact h
  rw [verF, leafN_sig s leaf m h, e1, e2 _ rfl, sigF_len]
  simp [h]
theorem ver_far (p m : Nm) (sig : List UInt8) : verF p m (255 :: sig) = false := by
  have : ¬ leafN (255 :: sig) < 1024 := by
    rw [leafN]
    simp only [List.getD_cons_zero]
    have : (255 : UInt8).toNat = 255 := rfl
    omega
  simp [verF, this]
theorem ver_short (p m : Nm) (sig : List UInt8) (h : sig.length ≠ 370) : verF p m sig = false := by simp [verF, h]
end Go.Proofs.YthmecidpjlaonaaGreat
namespace Go.Proofs.YthmecidpjlaonaaGreat
open Go.RowKit

set_option maxRecDepth 100000 in
set_option maxHeartbeats 1000000 in
theorem start_core (s r : Nm) (c : Nat) (w : World) (hc : c ≤ 255) (hr : startF s c = r) : Calls Tryz.prog 214 #[s.val, .int .i64 (c : Int)] w (NmPost w r) := by
  obtain ⟨i0, hi, hz0, hz1, hz2⟩ := info_parts info_byte
  have hr2 : sumF (32 :: (s.bytes ++ [UInt8.ofNat c])) = r := hr
  have Hr := Lib.hid hr2; clear hr hr2
  have hb1 := bn_eq c hc
  generalize UInt8.ofNat c = b1 at *
  have HB1 := Lib.hid hb1; clear hb1
  go_enter Tryz.func214, Tryz.ntmps214
  go_upto_region 1 with fail
  have hX : Blk ((w.alloc (Obj.cells s.cells 29)).alloc (Obj.cells zero8 29)) w.heap.size 29 s.cells := (Blk.new w _ _).alloc _
  have hR : Blk ((w.alloc (Obj.cells s.cells 29)).alloc (Obj.cells zero8 29)) (w.heap.size + 1) 29 zero8 := by
    have := Blk.new (w.alloc (Obj.cells s.cells 29)) 29 zero8
    simpa using this
  have hb : Below w.heap.size w ((w.alloc (Obj.cells s.cells 29)).alloc (Obj.cells zero8 29)) := ((Below.refl _ _).alloc (Nat.le_refl _) _).alloc (by simp) _
  generalize ((w.alloc (Obj.cells s.cells 29)).alloc (Obj.cells zero8 29)) = wr at *
  have hltX := hX.lt
  go_wp2_with (at_builtin; refine wpList_append_grows _ rfl (.tmp 5) (.tmp 8) _ rfl 5 i0 (.int .u8 0) 1 1 Tryz.underlying32 hi hz0 hz1 hz2 rfl (by decide) (some ⟨w.heap.size, 0, none⟩) 8 8 (s.bytes.map B) rfl ?r0 rfl ?r1 ⟨wr.heap.size, 0, none⟩ 1 1 [B b1] rfl rfl ?r2 ?r3 ?r4 ?r5 ?r6 ?_)
  case r0 => intro h; cases h
  case r1 =>
    intro b hbe j u hu
    injection hbe with hbe; subst hbe
    rw [Addr.add_mid, Nat.zero_add, (hX.alloc _).cell]
    simpa [Nm.bytes] using hu
  case r2 =>
    intro j u hu
    rw [Addr.add_mid, Nat.zero_add, (Blk.new wr _ _).cell, ← hu, HB1.out]
    simp
  case r3 => intro u hu; simp at hu; rcases hu with rfl; rfl
  case r4 => omega
  case r5 => unfold maxLen; omega
  case r6 => omega
  intro v2 w2 hown2 hg2
  have hR2 := (hR.alloc _).kept hg2 (by simp)
  have hb2 := below_none (hb.alloc hb.size _) hg2
  have e : s.bytes.map B ++ [B b1] = (s.bytes ++ [b1]).map B := by simp
  rw [e] at hown2
  obtain ⟨A2, c2, rfl⟩ := own_form hown2
  have hcall : Calls Tryz.prog 96 #[.int .u8 32, .slice A2 (8 + 1) c2] w2 (NmPost w2 r) := tagged_core 32 A2 c2 (s.bytes ++ [b1]) r w2 (Rd.of_own hown2) (by simp [Nm.bytes]) Hr.out
  have HC := Lib.hid hcall
  clear hcall e hown2 hg2 hX hR hb
  go_wp2_with fail
  refine HC.out.mono ?_
  rintro en w3 ⟨rfl, hb3⟩
  have hR3 := hR2.below hb3 hR2.lt
  have hbw3 := hb2.trans (hb3.mono hb2.size)
  clear hR2 hb2 hb3 HC
  go_wp2_with (refine wpList_store_blk rfl 29 (.tmp 4) (.tmp 10) rfl (w.heap.size + 1) _ rfl rfl 29 _ hR3 rfl size_name ?s2 ?_)
  case s2 => exact ⟨rfl, rfl, rfl, rfl, rfl, rfl, rfl, rfl⟩
  intro w4 hR4 hg4 hs4
  have hbw4 : Below w.heap.size w w4 := hbw3.grown hg4 hbw3.size (by rintro j ⟨⟩; omega)
  go_wp2
  exact bodyPost_ret (results_cell_row (g := w.heap.size + 1) rfl _ _ _ _ _ _ rfl hR4 Tryz.underlying29 rfl size_name) rfl ⟨rfl, hbw4⟩

theorem mapRange_snoc {α : Type} (f : Nat → α) (k : Nat) : (List.range (k + 1)).map f = (List.range k).map f ++ [f k] := by simp [List.range_succ]

set_option maxRecDepth 100000 in
set_option maxHeartbeats 2000000 in
theorem opublic_core (s r : Nm) (w : World) (hr : opubF s = r) : Calls Tryz.prog 196 #[s.val] w (NmPost w r) := by
  obtain ⟨Z, hZ⟩ : ∃ Z, Z = Array.replicate 144 (Value.int .u8 0) := ⟨_, rfl⟩
  have hmk : ∀ W : World, (Instr.makeSlice 22 (.int .i64 18) (.int .i64 18)).run Tryz.prog W = .ok (.slice (some ⟨W.heap.size, 0, none⟩) 18 18) (W.alloc (.cells Z 29)) := fun W => by rw [hZ]; kernel_rfl
  have HZ : Hid (Z.size = 8 * 18) := by rw [hZ]; exact Array.size_replicate
  have Hr := Lib.hid hr
  clear hZ hr
  go_enter Tryz.func196, Tryz.ntmps196
  go_upto_region 2 with fail
  clear hmk
  have hX : Blk (((w.alloc (Obj.cells s.cells 29)).alloc (Obj.cells zero8 29)).alloc (Obj.cells Z 29)) w.heap.size 29 s.cells := ((Blk.new w _ _).alloc _).alloc _
  have hR : Blk (((w.alloc (Obj.cells s.cells 29)).alloc (Obj.cells zero8 29)).alloc (Obj.cells Z 29)) (w.heap.size + 1) 29 zero8 := by
    have := (Blk.new (w.alloc (Obj.cells s.cells 29)) 29 zero8).alloc (Obj.cells Z 29)
    simpa using this
  have hN : NamesAt (((w.alloc (Obj.cells s.cells 29)).alloc (Obj.cells zero8 29)).alloc (Obj.cells Z 29)) (w.heap.size + 1 + 1) 18 [] := by
    have := NamesAt.zero ((w.alloc (Obj.cells s.cells 29)).alloc (Obj.cells zero8 29)) Z 18 HZ.out
    simpa using this
  have hbW : Below w.heap.size w (((w.alloc (Obj.cells s.cells 29)).alloc (Obj.cells zero8 29)).alloc (Obj.cells Z 29)) := (((Below.refl _ _).alloc (Nat.le_refl _) _).alloc (by simp) _).alloc (by simp; omega) _
  generalize (((w.alloc (Obj.cells s.cells 29)).alloc (Obj.cells zero8 29)).alloc (Obj.cells Z 29)) = W at *
  try go_frame
  go_wp2_with fail
  go_loopw [6] (fun i wr => ∃ k : Nat, k ≤ 18 ∧ i = .int .i64 k ∧ NamesAt wr (w.heap.size + 1 + 1) 18 ((List.range k).map (chainEnd s)) ∧ Blk wr w.heap.size 29 s.cells ∧ Blk wr (w.heap.size + 1) 29 zero8 ∧ Below w.heap.size w wr)
    (fun i _ => 18 - (intOf i).toNat)
  case atStart => exact ⟨0, by omega, rfl, hN, hX, hR, hbW⟩
  case round =>
    clear hN hX hR hbW
    obtain ⟨k, hk, rfl, hN, hX, hR, hb⟩ := hrel
    by_cases hlt : k < 18
    · have e1 := mapRange_snoc (chainEnd s) k
      have E1 := Lib.hid e1; clear e1
      have E2 : Hid (((List.range k).map (chainEnd s)).length = k) := by show _ = _; simp
      generalize (List.range k).map (chainEnd s) = nl at *
      obtain ⟨y, hy⟩ : ∃ y, chainEnd s k = y := ⟨_, rfl⟩
      obtain ⟨x, hx⟩ : ∃ x, startF s k = x := ⟨_, rfl⟩
      have e3 : walkF x k 0 (15 - 0) = y := by rw [← hx, ← hy]; rfl
      have HS : Hid (∀ W, Calls Tryz.prog 214 #[s.val, .int .i64 (k : Int)] W (NmPost W x)) := fun W => start_core s x k W (by omega) hx
      have HW : Hid (∀ W, Calls Tryz.prog 161 #[x.val, .int .i64 (k : Int), .int .i64 0, .int .i64 15] W (NmPost W y)) := fun W => by
        rw [← e3]; exact walk_any x k 0 15 W (by omega) (by omega) (by omega)
      rw [hy] at E1
      clear hx hy e3
      have hltX := hX.lt
      go_wp2_with (first
        | (refine wpList_load_row rfl 29 (.tmp 1) rfl w.heap.size rfl 29 s.cells (0, 0) _ hX Tryz.underlying29 rfl size_name ?_)
        | (go_at_call 214; refine (HS.out _).mono ?_; rintro en w2 ⟨rfl, hb2⟩; have hN2 := hN.below hb2 hN.lt; have hX2 := hX.below hb2 hX.lt; have hR2 := hR.below hb2 hR.lt; have hbw2 := hb.trans (hb2.mono hb.size); clear HS)
        | (go_at_call 161; refine (HW.out _).mono ?_; rintro en w3 ⟨rfl, hb3⟩; have hN3 := hN2.below hb3 hN2.lt; have hX3 := hX2.below hb3 hX2.lt; have hR3 := hR2.below hb3 hR2.lt; have hbw3 := hbw2.trans (hb3.mono hbw2.size))
        | (refine wpList_store_name rfl 29 (.tmp 16) (.tmp 15) rfl (w.heap.size + 1 + 1) 18 k nl y rfl rfl hN3 E2.out hlt size_name ?_))
      intro w4 hN4 hg4 hs4
      have hX4 := hX3.kept hg4 (by simp; omega)
      have hR4 := hR3.kept hg4 (by simp)
      have hbw4 : Below w.heap.size w w4 := hbw3.grown hg4 hbw3.size (by rintro j ⟨⟩; omega)
      clear hN hX hR hb hb2 hN2 hX2 hR2 hbw2 hb3 hN3 hX3 hR3 hbw3 hg4 hs4 HW
      go_wp2
      go_roundw
      case rel => exact ⟨k + 1, by omega, by go_num, by rw [E1.out]; exact hN4, hX4, hR4, hbw4⟩
      case measure => simp [intOf]; omega
    · obtain rfl : k = 18 := by omega
      have hcall : Calls Tryz.prog 162 #[.slice (some ⟨w.heap.size + 1 + 1, 0, none⟩) 18 18] wr (NmPost wr r) := by
        have h := public_any (some ⟨w.heap.size + 1 + 1, 0, none⟩) 18 ((List.range 18).map (chainEnd s)) wr hN.rd (by simp)
        rw [List.length_map, List.length_range] at h
        rw [← Hr.out]
        exact h
      have HC := Lib.hid hcall
      clear hcall hN hX
      go_wp2_with fail
      refine HC.out.mono ?_
      rintro en w3 ⟨rfl, hb3⟩
      have hR3 := hR.below hb3 hR.lt
      have hbw3 := hb.trans (hb3.mono hb.size)
      clear hR hb hb3 HC
      go_wp2_with (refine wpList_store_blk rfl 29 (.tmp 2) (.tmp 19) rfl (w.heap.size + 1) _ rfl rfl 29 _ hR3 rfl size_name ?s2 ?_)
      case s2 => exact ⟨rfl, rfl, rfl, rfl, rfl, rfl, rfl, rfl⟩
      intro w4 hR4 hg4 hs4
      have hbw4 : Below w.heap.size w w4 := hbw3.grown hg4 hbw3.size (by rintro j ⟨⟩; omega)
      go_wp2
      exact bodyPost_ret (results_cell_row (g := w.heap.size + 1) rfl _ _ _ _ _ _ rfl hR4 Tryz.underlying29 rfl size_name) rfl ⟨rfl, hbw4⟩

set_option maxRecDepth 100000 in
set_option maxHeartbeats 2000000 in
theorem osign_any (s m : Nm) (w : World) : Calls Tryz.prog 194 #[s.val, m.val] w (NamesPost w 18 (osignF s m)) := by
  obtain ⟨Z, hZ⟩ : ∃ Z, Z = Array.replicate 144 (Value.int .u8 0) := ⟨_, rfl⟩
  have hmk : ∀ W : World, (Instr.makeSlice 22 (.int .i64 18) (.int .i64 18)).run Tryz.prog W = .ok (.slice (some ⟨W.heap.size, 0, none⟩) 18 18) (W.alloc (.cells Z 29)) := fun W => by rw [hZ]; kernel_rfl
  have HZ : Hid (Z.size = 8 * 18) := by rw [hZ]; exact Array.size_replicate
  clear hZ
  go_enter Tryz.func194, Tryz.ntmps194
  go_upto_region 2 with fail
  clear hmk
  have hX : Blk (((w.alloc (Obj.cells s.cells 29)).alloc (Obj.cells m.cells 29)).alloc (Obj.cells Z 29)) w.heap.size 29 s.cells := ((Blk.new w _ _).alloc _).alloc _
  have hM : Blk (((w.alloc (Obj.cells s.cells 29)).alloc (Obj.cells m.cells 29)).alloc (Obj.cells Z 29)) (w.heap.size + 1) 29 m.cells := by
    have := (Blk.new (w.alloc (Obj.cells s.cells 29)) 29 m.cells).alloc (Obj.cells Z 29)
    simpa using this
  have hN : NamesAt (((w.alloc (Obj.cells s.cells 29)).alloc (Obj.cells m.cells 29)).alloc (Obj.cells Z 29)) (w.heap.size + 1 + 1) 18 [] := by
    have := NamesAt.zero ((w.alloc (Obj.cells s.cells 29)).alloc (Obj.cells m.cells 29)) Z 18 HZ.out
    simpa using this
  have hbW : Below w.heap.size w (((w.alloc (Obj.cells s.cells 29)).alloc (Obj.cells m.cells 29)).alloc (Obj.cells Z 29)) := (((Below.refl _ _).alloc (Nat.le_refl _) _).alloc (by simp) _).alloc (by simp; omega) _
  generalize (((w.alloc (Obj.cells s.cells 29)).alloc (Obj.cells m.cells 29)).alloc (Obj.cells Z 29)) = W at *
  try go_frame
  go_wp2_with (refine wpList_load_row rfl 29 (.tmp 3) rfl (w.heap.size + 1) rfl 29 m.cells (0, 0) _ hM Tryz.underlying29 rfl size_name ?_)
  clear hM
  refine (digits_any m W).mono ?_
  rintro en w1 ⟨A1, c1, rfl, hown, hb1⟩
  replace hX := hX.below hb1 hX.lt
  replace hN := hN.below hb1 hN.lt
  replace hown := own_base hown hbW.size
  replace hbW := hbW.trans (hb1.mono hbW.size)
  clear hb1 HZ
  have hdl := digits_length m
  have hdle := digits_le m
  obtain ⟨gd, od, rfl, _, _⟩ := (Rd.of_own hown).cells (by intro e; rw [List.map_eq_nil_iff] at e; rw [e] at hdl; simp at hdl)
  obtain ⟨ds, hds⟩ : ∃ ds, ds = digits m := ⟨_, rfl⟩
  rw [← hds] at hown hdl hdle
  have Hds := Lib.hid hds; clear hds
  have Hdl := Lib.hid hdl; clear hdl
  have Hdle := Lib.hid hdle; clear hdle
  go_wp2_with fail
  go_loopw [12] (fun i wr => ∃ k : Nat, k ≤ 18 ∧ i = .int .i64 k ∧ NamesAt wr (w.heap.size + 1 + 1) 18 ((List.range k).map (chainAt s m)) ∧ Blk wr w.heap.size 29 s.cells ∧ wr.ownsRow w.heap.size 3 1 (.slice (some ⟨gd, od, none⟩) 18 c1) 18 (ds.map N) ∧ Below w.heap.size w wr)
    (fun i _ => 18 - (intOf i).toNat)
  case atStart => exact ⟨0, by omega, rfl, hN, hX, hown, hbW⟩
  case round =>
    clear hN hX hown hbW
    obtain ⟨k, hk, rfl, hN, hX, hown, hb⟩ := hrel
    by_cases hlt : k < 18
    · have e1 := mapRange_snoc (chainAt s m) k
      have E1 := Lib.hid e1; clear e1
      have E2 : Hid (((List.range k).map (chainAt s m)).length = k) := by show _ = _; simp
      generalize (List.range k).map (chainAt s m) = nl at *
      have hdk := getD_some 0 (l := ds) (k := k) (by rw [Hdl.out]; exact hlt)
      have hd15 := Hdle.out _ (List.mem_of_getElem? hdk)
      obtain ⟨y, hy⟩ : ∃ y, chainAt s m k = y := ⟨_, rfl⟩
      obtain ⟨x, hx⟩ : ∃ x, startF s k = x := ⟨_, rfl⟩
      have e3 : walkF x k 0 (ds.getD k 0 - 0) = y := by rw [← hx, ← hy, Hds.out]; rfl
      generalize ds.getD k 0 = d at *
      have hdc : wr.cell? ⟨gd, od + k, none⟩ = some (N d) := by
        obtain ⟨gd', od', he, _, hc⟩ := (Rd.of_own hown).cells (by intro e; rw [e] at hown; have := hown.1; simp at this)
        injection he with he
        injection he with h1 h2
        subst h1; subst h2
        exact hc k _ (by rw [List.getElem?_map, hdk]; rfl)
      have HS : Hid (∀ W, Calls Tryz.prog 214 #[s.val, .int .i64 (k : Int)] W (NmPost W x)) := fun W => start_core s x k W (by omega) hx
      have HW : Hid (∀ W, Calls Tryz.prog 161 #[x.val, .int .i64 (k : Int), .int .i64 0, .int .i64 (d : Int)] W (NmPost W y)) := fun W => by
        rw [← e3]; exact walk_any x k 0 d W (by omega) (by omega) (by omega)
      rw [hy] at E1
      clear hx hy e3 hdk
      have hltX := hX.lt
      go_wp2_with (first
        | (refine wpList_load_row rfl 29 (.tmp 2) rfl w.heap.size rfl 29 s.cells (0, 0) _ hX Tryz.underlying29 rfl size_name ?_)
        | (go_at_call 214; refine (HS.out _).mono ?_; rintro en w2 ⟨rfl, hb2⟩; have hN2 := hN.below hb2 hN.lt; have hX2 := hX.below hb2 hX.lt; have hown2 := own_below hown hb2 (Nat.le_refl _); have hbw2 := hb.trans (hb2.mono hb.size); clear HS)
        | (go_at_call 161; refine (HW.out _).mono ?_; rintro en w3 ⟨rfl, hb3⟩; have hN3 := hN2.below hb3 hN2.lt; have hX3 := hX2.below hb3 hX2.lt; have hown3 := own_below hown2 hb3 (Nat.le_refl _); have hbw3 := hbw2.trans (hb3.mono hbw2.size))
        | (refine wpList_store_name rfl 29 (.tmp 25) (.tmp 24) rfl (w.heap.size + 1 + 1) 18 k nl y rfl rfl hN3 E2.out hlt size_name ?_))
      intro w4 hN4 hg4 hs4
      have hX4 := hX3.kept hg4 (by simp; omega)
      have hown4 := hown3.kept hg4 (by
        obtain ⟨cur, hC, _⟩ := hN3
        exact .inr fun e => own_ne hown3 hC (by decide) e.symm)
      have hbw4 : Below w.heap.size w w4 := hbw3.grown hg4 hbw3.size (by rintro j ⟨⟩; omega)
      clear hN hX hown hb hb2 hN2 hX2 hown2 hbw2 hb3 hN3 hX3 hown3 hbw3 hg4 hs4 HW hdc
      go_wp2
      go_roundw
      case rel => exact ⟨k + 1, by omega, by go_num, by rw [E1.out]; exact hN4, hX4, hown4, hbw4⟩
      case measure => simp [intOf]; omega
    · obtain rfl : k = 18 := by omega
      clear hX hown
      go_wp2
      go_ret
      exact ⟨_, rfl, hN, hb⟩
end Go.Proofs.YthmecidpjlaonaaGreat
namespace Go.Proofs.YthmecidpjlaonaaGreat
open Go.RowKit
attribute [local go_sem ↓] Go.wp_at_zero Go.wp_at_succ loadNm
attribute [local go_sem] runNm pickRow_some rowAt_drew rowAt_drewN

theorem nmRow {w : World} {B' b o : Nat} {l : List Nm} {k : Nat} {x : Nm} (h : Rd w B' (some ⟨b, o, none⟩) (l.flatMap nmc)) (hk : l[k]? = some x) : rowAt w b (o + k * 8) 8 = some x.cells := by
  obtain ⟨b', o', e, _, hc⟩ := h.name hk
  injection e with e
  injection e with e1 e2
  subst e1; subst e2
  exact rowAt_of (fun j u hu => hc j u (by simpa using hu)) rfl
theorem nmTake {w : World} {B' : Nat} {A : Option Addr} {l : List Nm} (h : Rd w B' A (l.flatMap nmc)) (k : Nat) : Rd w B' A ((l.take k).flatMap nmc) := by
  have h1 := h.take (k * 8)
  have e : (l.flatMap nmc).take (k * 8) = (l.take k).flatMap nmc := by
    clear h h1
    induction l generalizing k with
    | nil => simp
    | cons a r ih =>
      cases k with
      | zero => simp
      | succ k =>
        rw [List.flatMap_cons, List.take_succ_cons, List.flatMap_cons, ← ih k, Nat.succ_mul, Nat.add_comm (k * 8) 8]
        exact List.take_length_add_append (l₁ := nmc a) (k * 8)
  rw [← e]; exact h1
theorem nmDrop {w : World} {B' b o : Nat} {l : List Nm} (h : Rd w B' (some ⟨b, o, none⟩) (l.flatMap nmc)) (k : Nat) : Rd w B' (some ⟨b, o + k * 8, none⟩) ((l.drop k).flatMap nmc) := by
  rcases h with h | ⟨b', o', e, hb, hc⟩
  · refine .inl ?_
    have h0 : l = [] := by
      cases l with
      | nil => rfl
      | cons a r => simp at h
    rw [h0]; simp
  · injection e with e
    injection e with e1 e2
    subst e1; subst e2
    refine .inr ⟨b, o + k * 8, rfl, hb, fun j u hu => ?_⟩
    rw [Nat.add_assoc]
    refine hc _ u ?_
    rw [← hu]
    clear hu hc
    induction l generalizing k with
    | nil => simp
    | cons a r ih =>
      cases k with
      | zero => simp
      | succ k =>
        rw [List.drop_succ_cons, ← ih k, List.flatMap_cons, show (k + 1) * 8 + j = 8 + (k * 8 + j) from by omega, List.getElem?_append_right (by simp)]
        simp
theorem one_nm (x : Nm) {u : Value} (h : u ∈ x.cells.toList) : u.oneCell' = true := by
  simp at h
  rcases h with rfl | rfl | rfl | rfl | rfl | rfl | rfl | rfl <;> rfl

set_option maxRecDepth 100000 in
set_option maxHeartbeats 2000000 in
theorem mroot_step (d n k c b o : Nat) (r1 r2 r : Nm) (w : World) (hk : k = 2 ^ d) (hn : n = 2 ^ (d + 1)) (hd : d ≤ 40) (hc : n ≤ c)
    (h1 : ∀ W, Below w.heap.size w W → Calls Tryz.prog 170 #[.slice (some ⟨b, o, none⟩) k c] W (NmPost W r1))
    (h2 : ∀ W, Below w.heap.size w W → Calls Tryz.prog 170 #[.slice (some ⟨b, o + k * 8, none⟩) k (c - k)] W (NmPost W r2)) (hr : sumF (18 :: (r1.bytes ++ r2.bytes)) = r) :
    Calls Tryz.prog 170 #[.slice (some ⟨b, o, none⟩) n c] w (NmPost w r) := by
  have HS := Lib.hid hr; clear hr
  have H1 := Lib.hid h1; clear h1
  have H2 := Lib.hid h2; clear h2
  have hk1 : 1 ≤ k := by rw [hk]; exact Nat.one_le_two_pow
  have hkb : k ≤ 1099511627776 := by rw [hk]; exact Nat.pow_le_pow_right (j := 40) (by omega) hd
  have h2k : n = 2 * k := by rw [hn, hk, Nat.pow_succ]; omega
  have hcall : ∀ W, Calls Tryz.prog 189 #[.int .i64 (n : Int)] W fun en w' => en = .returned (.int .i64 (k : Int)) ∧ w' = W := fun W => by
    rw [hk]; exact split_pow d n W hn hd
  have HC := Lib.hid hcall; clear hcall
  have hne0 : ((n : Int) == 0) = false := by rw [beq_eq_false_iff_ne]; omega
  have hne1 : ((n : Int) == 1) = false := by rw [beq_eq_false_iff_ne]; omega
  clear hk hn
  subst h2k
  have i1 : (0 : Int) ≤ (k : Int) := by omega
  have i2 : (k : Int) ≤ (c : Int) := by omega
  have i3 : (k : Int) ≤ ((2 * k : Nat) : Int) := by omega
  have i4 : ¬ c = k := by omega
  have i5 : 2 * k - k = k := by omega
  have i6 : ((2 * k : Nat) : Int) ≤ (c : Int) := by omega
  obtain ⟨n, hn⟩ : ∃ n, n = 2 * k := ⟨_, rfl⟩
  rw [← hn] at hne0 hne1 HC i3 i5 i6 ⊢
  clear hn
  go_enter Tryz.func170, Tryz.ntmps170
  go_upto_region 7 with ((go_at_call 189; refine (HC.out _).mono ?_; rintro en w' ⟨rfl, rfl⟩))
  have hR : Blk (w.alloc (Obj.cells zero8 29)) w.heap.size 29 zero8 := Blk.new w _ _
  have hbW : Below w.heap.size w (w.alloc (Obj.cells zero8 29)) := (Below.refl _ _).alloc (Nat.le_refl _) _
  generalize (w.alloc (Obj.cells zero8 29)) = W at *
  refine wp_region_noPanic ?_
  refine wp_region_held_drew (S := fun _ => True) (by kernel_rfl) (trivial) (fun hHeld => ?_)
  refine wpAnyH_takeD (some 18) (i := 0) (v := ?vh1_0) rfl rfl (by kernel_rfl) (by kernel_rfl) (by kernel_rfl) (fun _ _ _ h => h) (by rfl) ?hh1_0 (by assumption) ?_
  case hh1_0 => (intro wq hSw; (try dsimp only at hSw); go_simp; (try (with_reducible rfl)))
  go_frame
  refine wpAnyH_takeD (some 19) (i := 1) (v := ?vh1_1) rfl rfl (by kernel_rfl) (by kernel_rfl) (by kernel_rfl) (fun _ _ _ h => h) (by rfl) ?hh1_1 (by assumption) ?_
  case hh1_1 => (intro wq hSw; (try dsimp only at hSw); go_simp; (try (with_reducible rfl)))
  go_frame
  refine wpAnyH_takeD (some 20) (i := 2) (v := ?vh1_2) rfl rfl (by kernel_rfl) (by kernel_rfl) (by kernel_rfl) (fun _ _ _ h => h) (by rfl) ?hh1_2 (by assumption) ?_
  case hh1_2 => (intro wq hSw; (try dsimp only at hSw); go_simp; (try (with_reducible rfl)))
  go_frame
  refine wpAnyH_takeD (some 22) (i := 4) (v := ?vh1_4) rfl rfl (by kernel_rfl) (by kernel_rfl) (by kernel_rfl) (fun _ _ _ h => h) (by rfl) ?hh1_4 (by assumption) ?_
  case hh1_4 => (intro wq hSw; (try dsimp only at hSw); go_simp; (try (with_reducible rfl)))
  go_frame
  refine wpAnyH_takeD (some 23) (i := 5) (v := ?vh1_5) rfl rfl (by kernel_rfl) (by kernel_rfl) (by kernel_rfl) (fun _ _ _ h => h) (by rfl) ?hh1_5 (by assumption) ?_
  case hh1_5 => (intro wq hSw; (try dsimp only at hSw); go_simp; (try (with_reducible rfl)))
  go_frame
  refine wpAnyH_takeD (some 24) (i := 6) (v := ?vh1_6) rfl rfl (by kernel_rfl) (by kernel_rfl) (by kernel_rfl) (fun _ _ _ h => h) (by rfl) ?hh1_6 (by assumption) ?_
  case hh1_6 => (intro wq hSw; (try dsimp only at hSw); go_simp; (try (with_reducible rfl)))
  go_frame
  refine wpAnyH_ready (rs := [3]) (by kernel_rfl) (by simp) ?_
  refine AllReadyH.cons rfl (fun K hK => ?_) AllReadyH.nil
  go_simp
  refine (H1.out _ hbW.drew).mono ?_; rintro en w2 ⟨rfl, hb2⟩; have hbx2 := hbW.drew.trans (hb2.mono hbW.size); have hR2 := hR.drew.below hb2 hR.drew.lt
  go_wp2_with fail
  refine hK.out _ _ (trivial) (fun hHeld => ?_)
  clear hK K
  try go_frame
  refine wpAnyH_ready (rs := [7]) (by kernel_rfl) (by simp) ?_
  refine AllReadyH.cons rfl (fun K hK => ?_) AllReadyH.nil
  go_simp
  refine (H2.out _ hbx2).mono ?_; rintro en w3 ⟨rfl, hb3⟩; have hbx3 := hbx2.trans (hb3.mono hbx2.size); have hR3 := hR2.below hb3 hR2.lt
  go_wp2_with fail
  refine hK.out _ _ (trivial) (fun hHeld => ?_)
  clear hK K
  try go_frame
  refine wpAnyH_ready (rs := [8]) (by kernel_rfl) (by simp) ?_
  refine AllReadyH.cons rfl (fun K hK => ?_) AllReadyH.nil
  go_simp
  refine (pair_core 18 r1 r2 r _ HS.out).mono ?_; rintro en w4 ⟨rfl, hb4⟩; have hbx4 := hbx3.trans (hb4.mono hbx3.size); have hR4 := hR3.below hb4 hR3.lt
  go_wp2_with fail
  refine hK.out _ _ (trivial) (fun hHeld => ?_)
  clear hK K
  try go_frame
  refine wpAnyH_ready (rs := [9]) (by kernel_rfl) (by simp) ?_
  refine AllReadyH.cons rfl (fun K hK => ?_) AllReadyH.nil
  rw [if_pos (by rfl)]
  refine wp_store_blk 29 (.tmp 2) (.tmp 26) (by rfl) w.heap.size r.cells (by rfl) (by rfl) 29 zero8 hR4 rfl size_name ?st1 (by rfl) ?_
  case st1 => exact fun u hu => one_nm r hu
  intro w5 hR5 hg5 hs5
  refine hK.out _ _ (trivial) (fun hHeld => ?_)
  clear hK K
  try go_frame
  refine wpAnyH_done (by kernel_rfl) ?_ _
  refine NoPanic.normal ?_
  have hbw5 : Below w.heap.size w w5 := hbx4.grown hg5 hbx4.size (by rintro j ⟨⟩; omega)
  go_wp2
  exact bodyPost_ret (results_cell_row (g := w.heap.size) (cs := r.cells) rfl _ _ _ _ _ rfl hR5 Tryz.underlying29 rfl size_name) rfl ⟨rfl, hbw5⟩

set_option maxRecDepth 100000 in
set_option maxHeartbeats 2000000 in
theorem rroot_step (d n k c b o : Nat) (r1 r2 r : Nm) (w : World) (hk : k = 2 ^ d) (hn : n = 2 ^ (d + 1)) (hd : d ≤ 40) (hc : n ≤ c)
    (h1 : ∀ W, Below w.heap.size w W → Calls Tryz.prog 54 #[.slice (some ⟨b, o, none⟩) k c] W (NmPost W r1))
    (h2 : ∀ W, Below w.heap.size w W → Calls Tryz.prog 54 #[.slice (some ⟨b, o + k * 8, none⟩) k (c - k)] W (NmPost W r2)) (hr : sumF (18 :: (r1.bytes ++ r2.bytes)) = r) :
    Calls Tryz.prog 54 #[.slice (some ⟨b, o, none⟩) n c] w (NmPost w r) := by
  have HS := Lib.hid hr; clear hr
  have H1 := Lib.hid h1; clear h1
  have H2 := Lib.hid h2; clear h2
  have hk1 : 1 ≤ k := by rw [hk]; exact Nat.one_le_two_pow
  have hkb : k ≤ 1099511627776 := by rw [hk]; exact Nat.pow_le_pow_right (j := 40) (by omega) hd
  have h2k : n = 2 * k := by rw [hn, hk, Nat.pow_succ]; omega
  have hcall : ∀ W, Calls Tryz.prog 87 #[.int .i64 (n : Int)] W fun en w' => en = .returned (.int .i64 (k : Int)) ∧ w' = W := fun W => by
    rw [hk]; exact rsplit_pow d n W hn hd
  have HC := Lib.hid hcall; clear hcall
  have hne0 : ((n : Int) == 0) = false := by rw [beq_eq_false_iff_ne]; omega
  have hne1 : ((n : Int) == 1) = false := by rw [beq_eq_false_iff_ne]; omega
  clear hk hn
  subst h2k
  have i1 : (0 : Int) ≤ (k : Int) := by omega
  have i2 : (k : Int) ≤ (c : Int) := by omega
  have i3 : (k : Int) ≤ ((2 * k : Nat) : Int) := by omega
  have i4 : ¬ c = k := by omega
  have i5 : 2 * k - k = k := by omega
  have i6 : ((2 * k : Nat) : Int) ≤ (c : Int) := by omega
  obtain ⟨n, hn⟩ : ∃ n, n = 2 * k := ⟨_, rfl⟩
  rw [← hn] at hne0 hne1 HC i3 i5 i6 ⊢
  clear hn
  go_enter Tryz.func54, Tryz.ntmps54
  go_upto_region 7 with ((go_at_call 87; refine (HC.out _).mono ?_; rintro en w' ⟨rfl, rfl⟩))
  have hR : Blk (w.alloc (Obj.cells zero8 29)) w.heap.size 29 zero8 := Blk.new w _ _
  have hbW : Below w.heap.size w (w.alloc (Obj.cells zero8 29)) := (Below.refl _ _).alloc (Nat.le_refl _) _
  generalize (w.alloc (Obj.cells zero8 29)) = W at *
  refine wp_region_noPanic ?_
  refine wp_region_held_drew (S := fun _ => True) (by kernel_rfl) (trivial) (fun hHeld => ?_)
  refine wpAnyH_takeD (some 18) (i := 0) (v := ?vh2_0) rfl rfl (by kernel_rfl) (by kernel_rfl) (by kernel_rfl) (fun _ _ _ h => h) (by rfl) ?hh2_0 (by assumption) ?_
  case hh2_0 => (intro wq hSw; (try dsimp only at hSw); go_simp; (try (with_reducible rfl)))
  go_frame
  refine wpAnyH_takeD (some 19) (i := 1) (v := ?vh2_1) rfl rfl (by kernel_rfl) (by kernel_rfl) (by kernel_rfl) (fun _ _ _ h => h) (by rfl) ?hh2_1 (by assumption) ?_
  case hh2_1 => (intro wq hSw; (try dsimp only at hSw); go_simp; (try (with_reducible rfl)))
  go_frame
  refine wpAnyH_takeD (some 20) (i := 2) (v := ?vh2_2) rfl rfl (by kernel_rfl) (by kernel_rfl) (by kernel_rfl) (fun _ _ _ h => h) (by rfl) ?hh2_2 (by assumption) ?_
  case hh2_2 => (intro wq hSw; (try dsimp only at hSw); go_simp; (try (with_reducible rfl)))
  go_frame
  refine wpAnyH_takeD (some 22) (i := 4) (v := ?vh2_4) rfl rfl (by kernel_rfl) (by kernel_rfl) (by kernel_rfl) (fun _ _ _ h => h) (by rfl) ?hh2_4 (by assumption) ?_
  case hh2_4 => (intro wq hSw; (try dsimp only at hSw); go_simp; (try (with_reducible rfl)))
  go_frame
  refine wpAnyH_takeD (some 23) (i := 5) (v := ?vh2_5) rfl rfl (by kernel_rfl) (by kernel_rfl) (by kernel_rfl) (fun _ _ _ h => h) (by rfl) ?hh2_5 (by assumption) ?_
  case hh2_5 => (intro wq hSw; (try dsimp only at hSw); go_simp; (try (with_reducible rfl)))
  go_frame
  refine wpAnyH_takeD (some 24) (i := 6) (v := ?vh2_6) rfl rfl (by kernel_rfl) (by kernel_rfl) (by kernel_rfl) (fun _ _ _ h => h) (by rfl) ?hh2_6 (by assumption) ?_
  case hh2_6 => (intro wq hSw; (try dsimp only at hSw); go_simp; (try (with_reducible rfl)))
  go_frame
  refine wpAnyH_ready (rs := [3]) (by kernel_rfl) (by simp) ?_
  refine AllReadyH.cons rfl (fun K hK => ?_) AllReadyH.nil
  go_simp
  refine (H1.out _ hbW.drew).mono ?_; rintro en w2 ⟨rfl, hb2⟩; have hbx2 := hbW.drew.trans (hb2.mono hbW.size); have hR2 := hR.drew.below hb2 hR.drew.lt
  go_wp2_with fail
  refine hK.out _ _ (trivial) (fun hHeld => ?_)
  clear hK K
  try go_frame
  refine wpAnyH_ready (rs := [7]) (by kernel_rfl) (by simp) ?_
  refine AllReadyH.cons rfl (fun K hK => ?_) AllReadyH.nil
  go_simp
  refine (H2.out _ hbx2).mono ?_; rintro en w3 ⟨rfl, hb3⟩; have hbx3 := hbx2.trans (hb3.mono hbx2.size); have hR3 := hR2.below hb3 hR2.lt
  go_wp2_with fail
  refine hK.out _ _ (trivial) (fun hHeld => ?_)
  clear hK K
  try go_frame
  refine wpAnyH_ready (rs := [8]) (by kernel_rfl) (by simp) ?_
  refine AllReadyH.cons rfl (fun K hK => ?_) AllReadyH.nil
  go_simp
  refine (rpair_core 18 r1 r2 r _ HS.out).mono ?_; rintro en w4 ⟨rfl, hb4⟩; have hbx4 := hbx3.trans (hb4.mono hbx3.size); have hR4 := hR3.below hb4 hR3.lt
  go_wp2_with fail
  refine hK.out _ _ (trivial) (fun hHeld => ?_)
  clear hK K
  try go_frame
  refine wpAnyH_ready (rs := [9]) (by kernel_rfl) (by simp) ?_
  refine AllReadyH.cons rfl (fun K hK => ?_) AllReadyH.nil
  rw [if_pos (by rfl)]
  refine wp_store_blk 29 (.tmp 2) (.tmp 26) (by rfl) w.heap.size r.cells (by rfl) (by rfl) 29 zero8 hR4 rfl size_name ?st1 (by rfl) ?_
  case st1 => exact fun u hu => one_nm r hu
  intro w5 hR5 hg5 hs5
  refine hK.out _ _ (trivial) (fun hHeld => ?_)
  clear hK K
  try go_frame
  refine wpAnyH_done (by kernel_rfl) ?_ _
  refine NoPanic.normal ?_
  have hbw5 : Below w.heap.size w w5 := hbx4.grown hg5 hbx4.size (by rintro j ⟨⟩; omega)
  go_wp2
  exact bodyPost_ret (results_cell_row (g := w.heap.size) (cs := r.cells) rfl _ _ _ _ _ rfl hR5 Tryz.underlying29 rfl size_name) rfl ⟨rfl, hbw5⟩

set_option maxRecDepth 100000 in
set_option maxHeartbeats 1000000 in
theorem mroot_zero (x r : Nm) (b o c : Nat) (w : World) (hx : rowAt w b o 8 = some x.cells) (hb : b < w.heap.size) (hr : sumF (17 :: x.bytes) = r) :
    Calls Tryz.prog 170 #[.slice (some ⟨b, o, none⟩) 1 c] w (NmPost w r) := by
  have HS := Lib.hid hr; clear hr
  have hx2 : rowAt (w.alloc (Obj.cells zero8 29)) b o 8 = some x.cells := rowAt_below hx ((Below.refl _ _).alloc (Nat.le_refl _) _) hb
  clear hx
  go_enter Tryz.func170, Tryz.ntmps170
  go_upto_region 5 with fail
  have hR : Blk (w.alloc (Obj.cells zero8 29)) w.heap.size 29 zero8 := Blk.new w _ _
  have hbW : Below w.heap.size w (w.alloc (Obj.cells zero8 29)) := (Below.refl _ _).alloc (Nat.le_refl _) _
  generalize (w.alloc (Obj.cells zero8 29)) = W at *
  go_wp2_with (first
    | (go_at_call 190; refine (single_core x r _ HS.out).mono ?_; rintro en w5 ⟨rfl, hb5⟩; have hR5 := hR.below hb5 hR.lt; have hbw5 := hbW.trans (hb5.mono hbW.size))
    | (refine wpList_store_blk rfl 29 (.tmp 2) (.tmp 14) rfl w.heap.size _ rfl rfl 29 _ hR5 rfl size_name ?s2 ?_))
  case s2 => exact ⟨rfl, rfl, rfl, rfl, rfl, rfl, rfl, rfl⟩
  intro w6 hR6 hg6 hs6
  have hbw6 : Below w.heap.size w w6 := hbw5.grown hg6 hbw5.size (by rintro j ⟨⟩; omega)
  go_wp2
  exact bodyPost_ret (results_cell_row (g := w.heap.size) rfl _ _ _ _ _ _ rfl hR6 Tryz.underlying29 rfl size_name) rfl ⟨rfl, hbw6⟩
set_option maxRecDepth 100000 in
set_option maxHeartbeats 1000000 in
theorem rroot_zero (x r : Nm) (b o c : Nat) (w : World) (hx : Rd w w.heap.size (some ⟨b, o, none⟩) (x.bytes.map B)) (hr : sumF (17 :: x.bytes) = r) :
    Calls Tryz.prog 54 #[.slice (some ⟨b, o, none⟩) 1 c] w (NmPost w r) := by
  have HS := Lib.hid hr; clear hr
  have HC : Hid (∀ W, Below w.heap.size w W → Calls Tryz.prog 86 #[.int .u8 17, .slice (some ⟨b, o, none⟩) 8 8] W (NmPost W r)) := fun W hW => rtagged_core 17 _ 8 x.bytes r W ((hx.below hW).more hW.size) (by simp [Nm.bytes]) HS.out
  clear hx
  go_enter Tryz.func54, Tryz.ntmps54
  go_upto_region 5 with fail
  have hR : Blk (w.alloc (Obj.cells zero8 29)) w.heap.size 29 zero8 := Blk.new w _ _
  have hbW : Below w.heap.size w (w.alloc (Obj.cells zero8 29)) := (Below.refl _ _).alloc (Nat.le_refl _) _
  generalize (w.alloc (Obj.cells zero8 29)) = W at *
  go_wp2_with (first
    | (go_at_call 86; refine (HC.out _ hbW).mono ?_; rintro en w5 ⟨rfl, hb5⟩; have hR5 := hR.below hb5 hR.lt; have hbw5 := hbW.trans (hb5.mono hbW.size))
    | (refine wpList_store_blk rfl 29 (.tmp 2) (.tmp 14) rfl w.heap.size _ rfl rfl 29 _ hR5 rfl size_name ?s2 ?_))
  case s2 => exact ⟨rfl, rfl, rfl, rfl, rfl, rfl, rfl, rfl⟩
  intro w6 hR6 hg6 hs6
  have hbw6 : Below w.heap.size w w6 := hbw5.grown hg6 hbw5.size (by rintro j ⟨⟩; omega)
  go_wp2
  exact bodyPost_ret (results_cell_row (g := w.heap.size) rfl _ _ _ _ _ _ rfl hR6 Tryz.underlying29 rfl size_name) rfl ⟨rfl, hbw6⟩

theorem rd_addr {w : World} {B' : Nat} {A : Option Addr} {l : List Nm} (h : Rd w B' A (l.flatMap nmc)) (hl : 0 < l.length) : ∃ b o, A = some ⟨b, o, none⟩ ∧ b < B' := by
  obtain ⟨b, o, e, hb, _⟩ := h.cells (by intro e; have := flat_length nmc 8 l (nmc_len l); rw [e] at this; simp at this; omega)
  exact ⟨b, o, e, hb⟩

theorem mroot_any : ∀ (d : Nat) (l : List Nm) (A : Option Addr) (n c : Nat) (w : World), l.length = n → n = 2 ^ d → d ≤ 40 → n ≤ c → c ≤ maxLen → Rd w w.heap.size A (l.flatMap nmc) → Calls Tryz.prog 170 #[.slice A n c] w (NmPost w (rootF d l))
  | 0, l, A, n, c, w, hl, hn, _, _, _, hr => by
    obtain rfl : n = 1 := hn
    obtain ⟨b, o, rfl, hb⟩ := rd_addr hr (by omega)
    obtain ⟨x, hx⟩ : ∃ x, l[0]? = some x := ⟨_, List.getElem?_eq_getElem (by omega)⟩
    have e : rootF 0 l = sumF (17 :: x.bytes) := by rw [rootF, List.getD_eq_getElem?_getD, hx]; rfl
    rw [e]
    exact mroot_zero x _ b o c w (by simpa using nmRow hr (k := 0) hx) hb rfl
  | d + 1, l, A, n, c, w, hl, hn, hd, hc, hm, hr => by
    have h2 : n = 2 * 2 ^ d := by rw [hn, Nat.pow_succ]; omega
    have hp : 1 ≤ 2 ^ d := Nat.one_le_two_pow
    obtain ⟨b, o, rfl, hb⟩ := rd_addr hr (by omega)
    exact mroot_step d n (2 ^ d) c b o _ _ _ w rfl hn (by omega) hc
      (fun W hW => mroot_any d (l.take (2 ^ d)) _ _ c W (by rw [List.length_take]; omega) rfl (by omega) (by omega) hm (nmTake ((hr.below hW).more hW.size) _))
      (fun W hW => mroot_any d (l.drop (2 ^ d)) _ _ (c - 2 ^ d) W (by rw [List.length_drop]; omega) rfl (by omega) (by omega) (by omega) (nmDrop ((hr.below hW).more hW.size) _)) rfl

theorem rroot_any : ∀ (d : Nat) (l : List Nm) (A : Option Addr) (n c : Nat) (w : World), l.length = n → n = 2 ^ d → d ≤ 40 → n ≤ c → c ≤ maxLen → Rd w w.heap.size A (l.flatMap nmc) → Calls Tryz.prog 54 #[.slice A n c] w (NmPost w (rootF d l))
  | 0, l, A, n, c, w, hl, hn, _, _, _, hr => by
    obtain rfl : n = 1 := hn
    obtain ⟨b, o, rfl, hb⟩ := rd_addr hr (by omega)
    obtain ⟨x, hx⟩ : ∃ x, l[0]? = some x := ⟨_, List.getElem?_eq_getElem (by omega)⟩
    have e : rootF 0 l = sumF (17 :: x.bytes) := by rw [rootF, List.getD_eq_getElem?_getD, hx]; rfl
    rw [e]
    exact rroot_zero x _ b o c w (by
      have h := nmTake hr 1
      rw [List.take_one] at h
      cases l with
      | nil => simp at hl
      | cons y t =>
        simp at hx; subst hx
        simpa [Nm.bytes] using h) rfl
  | d + 1, l, A, n, c, w, hl, hn, hd, hc, hm, hr => by
    have h2 : n = 2 * 2 ^ d := by rw [hn, Nat.pow_succ]; omega
    have hp : 1 ≤ 2 ^ d := Nat.one_le_two_pow
    obtain ⟨b, o, rfl, hb⟩ := rd_addr hr (by omega)
    exact rroot_step d n (2 ^ d) c b o _ _ _ w rfl hn (by omega) hc
      (fun W hW => rroot_any d (l.take (2 ^ d)) _ _ c W (by rw [List.length_take]; omega) rfl (by omega) (by omega) hm (nmTake ((hr.below hW).more hW.size) _))
      (fun W hW => rroot_any d (l.drop (2 ^ d)) _ _ (c - 2 ^ d) W (by rw [List.length_drop]; omega) rfl (by omega) (by omega) (by omega) (nmDrop ((hr.below hW).more hW.size) _)) rfl
end Go.Proofs.YthmecidpjlaonaaGreat
namespace Go.Proofs.YthmecidpjlaonaaGreat
open Go.RowKit
attribute [local go_sem ↓] Go.wp_at_zero Go.wp_at_succ loadNm
attribute [local go_sem] runNm pickRow_some rowAt_drew rowAt_drewN

theorem wp_app_grows {P : Program} (w : World) {o : Oper} {a : Act} {K : Act → World → Prop} {Q : Exit → Act → World → Prop} (d : Option Tmp) (hd : o.dst = d) (s x : Operand) (t : TypeId)
    (hop : o.op = Op.call { callee := Callee.builtin Builtin.append, args := #[s, x], argTypes := #[t, t] })
    (e : TypeId) (i : TypeInfo) (z : Value) (size bytes : Nat) (h1 : P.underlying t = some (.slice e)) (h2 : P.info? e = some i) (h3 : i.zero = some z) (h4 : i.size = size) (h5 : i.bytes = bytes) (h6 : z.cells.size = size) (h7 : 0 < size)
    (ao : Option Addr) (n cap : Nat) (olds : List Value) (hs : a.eval s = .slice ao n cap) (hnone : ao = none → n = 0 ∧ cap = 0) (hlo : olds.length = n * size) (holds : ∀ b, ao = some b → ∀ j u, olds[j]? = some u → w.cell? (b.add j) = some u)
    (ad : Addr) (m c : Nat) (news : List Value) (hx : a.eval x = .slice (some ad) m c) (hn : news.length = m * size) (hc : ∀ j u, news[j]? = some u → w.cell? (ad.add j) = some u) (h1c : ∀ u ∈ news, u.oneCell' = true)
    (hfull : cap < n + m) (b1 : n + m ≤ maxLen) (b2 : (n + m) * bytes ≤ 140737488355328)
    (hK : ∀ v' w', w'.ownsRow w.heap.size e size v' (n + m) (olds ++ news) → w.grownBy w' none → K (a.put d v') w') : o.wp P a w K Q := by
  subst hd
  cases ao with
  | some b =>
    obtain ⟨v', w', hrun, r1, r2⟩ := run_append_arg_grows (P := P) w t o.type e i z size bytes h1 h2 h3 h4 h5 h6 h7 b n cap olds hlo (holds b rfl) ad m c news hn hc hfull b1 b2
    unfold Oper.wp
    simp [execOp, hop, resolve, invoke, builtin, hs, hx, hrun, Result.andThen]
    exact hK v' w' r1 r2
  | none =>
    obtain ⟨rfl, rfl⟩ := hnone rfl
    obtain rfl : olds = [] := List.eq_nil_of_length_eq_zero (by simpa using hlo)
    obtain ⟨v', w', hrun, r1, r2, _⟩ := run_append_own (P := P) w w.heap.size t o.type e i z size bytes h1 h2 h3 h4 h5 h6 h7 (.slice none 0 0) 0 [] (World.ownsRow_nil w _ e size) ad m c news hn hc h1c b1 b2 (Nat.le_refl _)
    unfold Oper.wp
    simp [execOp, hop, resolve, invoke, builtin, hs, hx, hrun, Result.andThen]
    exact hK v' w' r1 r2

set_option maxRecDepth 100000 in
set_option maxHeartbeats 1000000 in
theorem climb_zero (A : Option Addr) (c i : Nat) (w : World) : Calls Tryz.prog 213 #[.slice A 1 c, .int .i64 (i : Int)] w fun e w' => e = .returned (.slice none 0 0) ∧ w' = w := by
  go_enter Tryz.func213, Tryz.ntmps213
  go_wp2
  go_ret
  exact ⟨rfl, rfl⟩

set_option maxRecDepth 100000 in
set_option maxHeartbeats 2000000 in
theorem climb_lt (d i n k c b o : Nat) (p : List Nm) (up : Nm) (w : World) (hp : p.length = d) (hk : k = 2 ^ d) (hn : n = 2 ^ (d + 1)) (hd : d ≤ 40) (hik : i < k) (hc : n ≤ c)
    (h1 : ∀ W, Below w.heap.size w W → Calls Tryz.prog 213 #[.slice (some ⟨b, o, none⟩) k k, .int .i64 (i : Int)] W (RowPost W 29 8 d (p.flatMap nmc)))
    (h2 : ∀ W, Below w.heap.size w W → Calls Tryz.prog 170 #[.slice (some ⟨b, o + k * 8, none⟩) k (c - k)] W (NmPost W up)) :
    Calls Tryz.prog 213 #[.slice (some ⟨b, o, none⟩) n c, .int .i64 (i : Int)] w (RowPost w 29 8 (d + 1) ((p ++ [up]).flatMap nmc)) := by
  obtain ⟨i0, hi, hz0, hz1, hz2⟩ := info_parts info_name
  have HP := Lib.hid hp; clear hp
  have H1 := Lib.hid h1; clear h1
  have H2 := Lib.hid h2; clear h2
  have hk1 : 1 ≤ k := by rw [hk]; exact Nat.one_le_two_pow
  have hkb : k ≤ 1099511627776 := by rw [hk]; exact Nat.pow_le_pow_right (j := 40) (by omega) hd
  have h2k : n = 2 * k := by rw [hn, hk, Nat.pow_succ]; omega
  have hcall : ∀ W, Calls Tryz.prog 189 #[.int .i64 (n : Int)] W fun en w' => en = .returned (.int .i64 (k : Int)) ∧ w' = W := fun W => by
    rw [hk]; exact split_pow d n W hn hd
  have HC := Lib.hid hcall; clear hcall
  have hne1 : ((n : Int) == 1) = false := by rw [beq_eq_false_iff_ne]; omega
  clear hk hn

  subst h2k
  have i1 : (0 : Int) ≤ (k : Int) := by omega
  have i2 : (k : Int) ≤ (c : Int) := by omega
  have i3 : (k : Int) ≤ ((2 * k : Nat) : Int) := by omega
  have i4 : ¬ c = k := by omega
  have i5 : 2 * k - k = k := by omega
  have i6 : ((2 * k : Nat) : Int) ≤ (c : Int) := by omega
  have i7 : decide ((i : Int) < (k : Int)) = true := by simp; omega
  obtain ⟨n, hn⟩ : ∃ n, n = 2 * k := ⟨_, rfl⟩
  rw [← hn] at hne1 HC i3 i5 i6 ⊢
  clear hn
  go_enter Tryz.func213, Tryz.ntmps213
  go_upto_region 7 with ((go_at_call 189; refine (HC.out _).mono ?_; rintro en w' ⟨rfl, rfl⟩))
  have hR : Blk (w.alloc (Obj.cells zero8 29)) w.heap.size 29 zero8 := Blk.new w _ _
  have hbW : Below w.heap.size w (w.alloc (Obj.cells zero8 29)) := (Below.refl _ _).alloc (Nat.le_refl _) _
  generalize (w.alloc (Obj.cells zero8 29)) = W at *
  refine wp_region_noPanic ?_
  refine wp_region_held_drew (S := fun _ => True) (by kernel_rfl) (trivial) (fun hHeld => ?_)
  refine wpAnyH_takeD (some 17) (i := 0) (v := ?vh1_0) rfl rfl (by kernel_rfl) (by kernel_rfl) (by kernel_rfl) (fun _ _ _ h => h) (by rfl) ?hh1_0 (by assumption) ?_
  case hh1_0 => (intro wq hSw; (try dsimp only at hSw); go_simp; (try (with_reducible rfl)))
  go_frame
  refine wpAnyH_takeD (some 18) (i := 1) (v := ?vh1_1) rfl rfl (by kernel_rfl) (by kernel_rfl) (by kernel_rfl) (fun _ _ _ h => h) (by rfl) ?hh1_1 (by assumption) ?_
  case hh1_1 => (intro wq hSw; (try dsimp only at hSw); go_simp; (try (with_reducible rfl)))
  go_frame
  refine wpAnyH_takeD (some 19) (i := 2) (v := ?vh1_2) rfl rfl (by kernel_rfl) (by kernel_rfl) (by kernel_rfl) (fun _ _ _ h => h) (by rfl) ?hh1_2 (by assumption) ?_
  case hh1_2 => (intro wq hSw; (try dsimp only at hSw); go_simp; (try (with_reducible rfl)))
  go_frame
  refine wpAnyH_takeD (some 20) (i := 3) (v := ?vh1_3) rfl rfl (by kernel_rfl) (by kernel_rfl) (by kernel_rfl) (fun _ _ _ h => h) (by rfl) ?hh1_3 (by assumption) ?_
  case hh1_3 => (intro wq hSw; (try dsimp only at hSw); go_simp; (try (with_reducible rfl)))
  go_frame
  refine wpAnyH_takeD (some 21) (i := 4) (v := ?vh1_4) rfl rfl (by kernel_rfl) (by kernel_rfl) (by kernel_rfl) (fun _ _ _ h => h) (by rfl) ?hh1_4 (by assumption) ?_
  case hh1_4 => (intro wq hSw; (try dsimp only at hSw); go_simp; (try (with_reducible rfl)))
  go_frame
  refine wpAnyH_takeD (some 23) (i := 6) (v := ?vh1_6) rfl rfl (by kernel_rfl) (by kernel_rfl) (by kernel_rfl) (fun _ _ _ h => h) (by rfl) ?hh1_6 (by assumption) ?_
  case hh1_6 => (intro wq hSw; (try dsimp only at hSw); go_simp; (try (with_reducible rfl)))
  go_frame
  refine wpAnyH_takeD (some 24) (i := 7) (v := ?vh1_7) rfl rfl (by kernel_rfl) (by kernel_rfl) (by kernel_rfl) (fun _ _ _ h => h) (by rfl) ?hh1_7 (by assumption) ?_
  case hh1_7 => (intro wq hSw; (try dsimp only at hSw); go_simp; (try (with_reducible rfl)))
  go_frame
  refine wpAnyH_takeD (some 25) (i := 8) (v := ?vh1_8) rfl rfl (by kernel_rfl) (by kernel_rfl) (by kernel_rfl) (fun _ _ _ h => h) (by rfl) ?hh1_8 (by assumption) ?_
  case hh1_8 => (intro wq hSw; (try dsimp only at hSw); go_simp; (try (with_reducible rfl)))
  go_frame
  refine wpAnyH_ready (rs := [5]) (by kernel_rfl) (by simp) ?_
  refine AllReadyH.cons rfl (fun K hK => ?_) AllReadyH.nil
  go_simp
  refine (H1.out _ hbW.drew).mono ?_; rintro en w2 ⟨A2, c2, rfl, hown2, hb2⟩; have hbx2 := hbW.drew.trans (hb2.mono hbW.size); have hR2 := hR.drew.below hb2 hR.drew.lt
  go_wp2_with fail
  refine hK.out _ _ (trivial) (fun hHeld => ?_)
  clear hK K
  try go_frame
  refine wpAnyH_ready (rs := [9]) (by kernel_rfl) (by simp) ?_
  refine AllReadyH.cons rfl (fun K hK => ?_) AllReadyH.nil
  go_simp
  refine (H2.out _ hbx2).mono ?_; rintro en w3 ⟨rfl, hb3⟩; have hbx3 := hbx2.trans (hb3.mono hbx2.size); have hR3 := hR2.below hb3 hR2.lt; have hown3 := own_below hown2 hb3 (Nat.le_refl _)
  go_wp2_with fail
  refine hK.out _ _ (trivial) (fun hHeld => ?_)
  clear hK K
  try go_frame
  refine wpAnyH_takeD (some 5) (i := 10) (v := ?vh1_10) rfl rfl (by kernel_rfl) (by kernel_rfl) (by kernel_rfl) (fun _ _ _ h => h) (by rfl) ?hh1_10 (by assumption) ?_
  case hh1_10 => (intro wq hSw; (try dsimp only at hSw); go_simp; (try (with_reducible rfl)))
  go_frame
  refine wpAnyH_ready (rs := [11]) (by kernel_rfl) (by simp) ?_
  refine AllReadyH.cons rfl (fun K hK => ?_) AllReadyH.nil
  rw [if_pos (by rfl)]
  refine wp_store_blk 29 (.tmp 6) (.tmp 26) (by rfl) w.heap.size up.cells (by rfl) (by rfl) 29 zero8 hR3 rfl size_name ?st1 (by rfl) ?_
  case st1 => exact fun u hu => one_nm up hu
  intro w4 hR4 hg4 hs4
  refine hK.out _ _ (trivial) (fun hHeld => ?_)
  clear hK K
  try go_frame
  refine wpAnyH_done (by kernel_rfl) ?_ _
  refine NoPanic.normal ?_
  have hbw4 : Below w.heap.size w w4 := hbx3.grown hg4 hbx3.size (by rintro j ⟨⟩; omega)
  have x4 : rowAt w4 w.heap.size 0 8 = some up.cells := hR4.row 8 rfl
  have hneq : hown3.1 = hown3.1 := rfl
  clear hneq
  have hown4 := hown3.kept hg4 (.inr fun e => by have := (hown3.lt _ e).1; have := hbW.size; have := hR.lt; simp at *; omega)
  have hnz : A2 = none → d = 0 ∧ d = 0 := fun e => by
    rcases hown4.2 with ⟨hv, h0⟩ | ⟨g, cap, cur, hv, _⟩
    · exact ⟨h0, h0⟩
    · injection hv with hA; rw [e] at hA; cases hA
  have HNz := Lib.hid hnz; clear hnz
  have hdc : d ≤ c2 := by
    rcases hown4.2 with ⟨hv, h0⟩ | ⟨g, cap, cur, hv, _, _, h1, h2, _⟩
    · omega
    · injection hv with _ _ hc; omega
  have hrd4 := Rd.of_own hown4
  have j1 : (0 : Int) ≤ (d : Int) := by omega
  have j2 : (d : Int) ≤ (c2 : Int) := by omega
  have HW4 : Hid (w4.ownsRow W.drew.heap.size 29 8 (.slice A2 d c2) d (p.flatMap nmc)) := hown4
  clear hR hR2 hR3 hbx2 hbx3 hg4 hs4 hbW
  try go_frame
  go_upto_region 9 with fail
  have HLT : Hid (w.heap.size < w4.heap.size) := hR4.lt
  clear hR4
  refine wp_region_noPanic ?_
  refine wp_region_held_drew (S := fun w' => rowAt w' w.heap.size 0 8 = some up.cells) (by kernel_rfl) (x4) (fun hHeld => ?_)
  refine wpAnyH_takeD (some 39) (i := 0) (v := ?vh2_0) rfl rfl (by kernel_rfl) (by kernel_rfl) (by kernel_rfl) (fun _ _ _ h => h) (by rfl) ?hh2_0 (by assumption) ?_
  case hh2_0 => (intro wq hSw; (try dsimp only at hSw); go_simp; (try (with_reducible rfl)))
  go_frame
  refine wpAnyH_takeD (some 40) (i := 1) (v := ?vh2_1) rfl rfl (by kernel_rfl) (by kernel_rfl) (by kernel_rfl) (fun _ _ _ h => h) (by rfl) ?hh2_1 (by assumption) ?_
  case hh2_1 => (intro wq hSw; (try dsimp only at hSw); go_simp; (try (with_reducible rfl)))
  go_frame
  refine wpAnyH_takeD (some 41) (i := 2) (v := ?vh2_2) rfl rfl (by kernel_rfl) (by kernel_rfl) (by kernel_rfl) (fun _ _ _ h => h) (by rfl) ?hh2_2 (by assumption) ?_
  case hh2_2 => (intro wq hSw; (try dsimp only at hSw); go_simp; (try (with_reducible rfl)))
  go_frame
  refine wpAnyH_takeD (some 42) (i := 3) (v := ?vh2_3) rfl rfl (by kernel_rfl) (by kernel_rfl) (by kernel_rfl) (fun _ _ _ h => h) (by rfl) ?hh2_3 (by assumption) ?_
  case hh2_3 => (intro wq hSw; (try dsimp only at hSw); go_simp; (try (with_reducible rfl)))
  go_frame
  refine wpAnyH_takeD (some 43) (i := 4) (v := ?vh2_4) rfl rfl (by kernel_rfl) (by kernel_rfl) (by kernel_rfl) (fun _ _ _ h => h) (by rfl) ?hh2_4 (by assumption) ?_
  case hh2_4 => (intro wq hSw; (try dsimp only at hSw); go_simp; (try (with_reducible rfl)))
  go_frame
  refine wpAnyH_takeD (some 44) (i := 5) (v := ?vh2_5) rfl rfl (by kernel_rfl) (by kernel_rfl) (by kernel_rfl) (fun _ _ _ h => h) (by rfl) ?hh2_5 (by assumption) ?_
  case hh2_5 => (intro wq hSw; (try dsimp only at hSw); go_simp; (try (with_reducible rfl)))
  go_frame
  refine wpAnyH_takeD (some 45) (i := 6) (v := ?vh2_6) rfl rfl (by kernel_rfl) (by kernel_rfl) (by kernel_rfl) (fun _ _ _ h => h) (by rfl) ?hh2_6 (by assumption) ?_
  case hh2_6 => (intro wq hSw; (try dsimp only at hSw); go_simp; (try (with_reducible rfl)))
  go_frame
  refine wpAnyH_ready (rs := [7]) (by kernel_rfl) (by simp) ?_
  refine AllReadyH.cons rfl (fun K hK => ?_) AllReadyH.nil
  go_simp
  refine hK.out _ _ (rowAt_below x4 ((Below.refl _ _).drew.alloc (by simp) _) HLT.out) (fun hHeld => ?_)
  clear hK K
  try go_frame
  refine wpAnyH_ready (rs := [8]) (by kernel_rfl) (by simp) ?_
  refine AllReadyH.cons rfl (fun K hK => ?_) AllReadyH.nil
  rw [if_pos (by rfl)]
  refine wp_app_grows _ (some 47) rfl (.tmp 44) (.tmp 46) _ (by rfl) 29 i0 (Nm.val ⟨0, 0, 0, 0, 0, 0, 0, 0⟩) 8 8 Tryz.underlying22 hi hz0 hz1 hz2 rfl (by decide) A2 d d (p.flatMap nmc) (by rfl) ?an ?al ?ah ⟨w4.heap.size, 0, none⟩ 1 1 (nmc up) (by rfl) rfl ?ac ?a1 ?af ?ab ?a2 ?_
  case an => exact HNz.out
  case al => rw [flat_length nmc 8 p (nmc_len p), HP.out]
  case ah =>
    intro q hq j u hu
    rcases hrd4 with h | ⟨b5, o5, e5, _, hc5⟩
    · rw [h] at hu; simp at hu
    · rw [hq] at e5; injection e5 with e5; subst e5
      rw [Addr.add_mid]
      have := hc5 j u hu
      have hlt5 := block_lt_of_cell this
      have e6 := Below.heap_alloc w4 (.cells up.cells 29) b5 hlt5
      show (w4.alloc (.cells up.cells 29)).cell? _ = _
      rw [World.cell?_of_block (a := ⟨b5, o5 + j, none⟩) e6]
      exact this
  case ac =>
    intro j u hu
    rw [Addr.add_mid, Nat.zero_add, ← hu]
    simp
  case a1 => exact fun u hu => names_one (l := [up]) (by simpa using hu)
  case af => omega
  case ab => unfold maxLen; omega
  case a2 => omega
  intro v5 w5 hown5 hg5
  have HB5 : Hid (Below w4.heap.size w4 w5) := ((Below.refl _ _).drew.alloc (by simp) _).grown hg5 (by simp) (by rintro j ⟨⟩)
  refine hK.out _ _ (rowAt_below x4 HB5.out HLT.out) (fun hHeld => ?_)
  clear hK K
  try go_frame
  refine wpAnyH_takeD (some 4) (i := 9) (v := ?vh2_9) rfl rfl (by kernel_rfl) (by kernel_rfl) (by kernel_rfl) (fun _ _ _ h => h) (by rfl) ?hh2_9 (by assumption) ?_
  case hh2_9 => (intro wq hSw; (try dsimp only at hSw); go_simp; (try (with_reducible rfl)))
  go_frame
  refine wpAnyH_done (by kernel_rfl) ?_ _
  refine NoPanic.normal ?_
  have hbw5 := hbw4.trans (HB5.out.mono hbw4.size)
  obtain ⟨A5, c5, rfl⟩ := own_form hown5
  go_wp2
  go_ret
  have e5 : (p ++ [up]).flatMap nmc = p.flatMap nmc ++ nmc up := by simp
  exact ⟨A5, c5, rfl, own_base (by rw [e5]; exact hown5) (by have := hbw4.size; simp; omega), hbw5⟩

set_option maxRecDepth 100000 in
set_option maxHeartbeats 2000000 in
theorem climb_lt0 (d i n k c b o : Nat) (p : List Nm) (up : Nm) (w : World) (hp : p.length = d) (h0 : d = 0) (hk : k = 2 ^ d) (hn : n = 2 ^ (d + 1)) (hd : d ≤ 40) (hik : i < k) (hc : n ≤ c)
    (h1 : ∀ W, Below w.heap.size w W → Calls Tryz.prog 213 #[.slice (some ⟨b, o, none⟩) k k, .int .i64 (i : Int)] W (fun e w' => e = .returned (.slice none 0 0) ∧ w' = W))
    (h2 : ∀ W, Below w.heap.size w W → Calls Tryz.prog 170 #[.slice (some ⟨b, o + k * 8, none⟩) k (c - k)] W (NmPost W up)) :
    Calls Tryz.prog 213 #[.slice (some ⟨b, o, none⟩) n c, .int .i64 (i : Int)] w (RowPost w 29 8 (d + 1) ((p ++ [up]).flatMap nmc)) := by
  obtain ⟨i0, hi, hz0, hz1, hz2⟩ := info_parts info_name
  have H0 := Lib.hid h0; clear h0
  have HP := Lib.hid hp; clear hp
  have H1 := Lib.hid h1; clear h1
  have H2 := Lib.hid h2; clear h2
  have hk1 : 1 ≤ k := by rw [hk]; exact Nat.one_le_two_pow
  have hkb : k ≤ 1099511627776 := by rw [hk]; exact Nat.pow_le_pow_right (j := 40) (by omega) hd
  have h2k : n = 2 * k := by rw [hn, hk, Nat.pow_succ]; omega
  have hcall : ∀ W, Calls Tryz.prog 189 #[.int .i64 (n : Int)] W fun en w' => en = .returned (.int .i64 (k : Int)) ∧ w' = W := fun W => by
    rw [hk]; exact split_pow d n W hn hd
  have HC := Lib.hid hcall; clear hcall
  have hne1 : ((n : Int) == 1) = false := by rw [beq_eq_false_iff_ne]; omega
  clear hk hn

  subst h2k
  have i1 : (0 : Int) ≤ (k : Int) := by omega
  have i2 : (k : Int) ≤ (c : Int) := by omega
  have i3 : (k : Int) ≤ ((2 * k : Nat) : Int) := by omega
  have i4 : ¬ c = k := by omega
  have i5 : 2 * k - k = k := by omega
  have i6 : ((2 * k : Nat) : Int) ≤ (c : Int) := by omega
  have i7 : decide ((i : Int) < (k : Int)) = true := by simp; omega
  obtain ⟨n, hn⟩ : ∃ n, n = 2 * k := ⟨_, rfl⟩
  rw [← hn] at hne1 HC i3 i5 i6 ⊢
  clear hn
  go_enter Tryz.func213, Tryz.ntmps213
  go_upto_region 7 with ((go_at_call 189; refine (HC.out _).mono ?_; rintro en w' ⟨rfl, rfl⟩))
  have hR : Blk (w.alloc (Obj.cells zero8 29)) w.heap.size 29 zero8 := Blk.new w _ _
  have hbW : Below w.heap.size w (w.alloc (Obj.cells zero8 29)) := (Below.refl _ _).alloc (Nat.le_refl _) _
  generalize (w.alloc (Obj.cells zero8 29)) = W at *
  refine wp_region_noPanic ?_
  refine wp_region_held_drew (S := fun _ => True) (by kernel_rfl) (trivial) (fun hHeld => ?_)
  refine wpAnyH_takeD (some 17) (i := 0) (v := ?vh3_0) rfl rfl (by kernel_rfl) (by kernel_rfl) (by kernel_rfl) (fun _ _ _ h => h) (by rfl) ?hh3_0 (by assumption) ?_
  case hh3_0 => (intro wq hSw; (try dsimp only at hSw); go_simp; (try (with_reducible rfl)))
  go_frame
  refine wpAnyH_takeD (some 18) (i := 1) (v := ?vh3_1) rfl rfl (by kernel_rfl) (by kernel_rfl) (by kernel_rfl) (fun _ _ _ h => h) (by rfl) ?hh3_1 (by assumption) ?_
  case hh3_1 => (intro wq hSw; (try dsimp only at hSw); go_simp; (try (with_reducible rfl)))
  go_frame
  refine wpAnyH_takeD (some 19) (i := 2) (v := ?vh3_2) rfl rfl (by kernel_rfl) (by kernel_rfl) (by kernel_rfl) (fun _ _ _ h => h) (by rfl) ?hh3_2 (by assumption) ?_
  case hh3_2 => (intro wq hSw; (try dsimp only at hSw); go_simp; (try (with_reducible rfl)))
  go_frame
  refine wpAnyH_takeD (some 20) (i := 3) (v := ?vh3_3) rfl rfl (by kernel_rfl) (by kernel_rfl) (by kernel_rfl) (fun _ _ _ h => h) (by rfl) ?hh3_3 (by assumption) ?_
  case hh3_3 => (intro wq hSw; (try dsimp only at hSw); go_simp; (try (with_reducible rfl)))
  go_frame
  refine wpAnyH_takeD (some 21) (i := 4) (v := ?vh3_4) rfl rfl (by kernel_rfl) (by kernel_rfl) (by kernel_rfl) (fun _ _ _ h => h) (by rfl) ?hh3_4 (by assumption) ?_
  case hh3_4 => (intro wq hSw; (try dsimp only at hSw); go_simp; (try (with_reducible rfl)))
  go_frame
  refine wpAnyH_takeD (some 23) (i := 6) (v := ?vh3_6) rfl rfl (by kernel_rfl) (by kernel_rfl) (by kernel_rfl) (fun _ _ _ h => h) (by rfl) ?hh3_6 (by assumption) ?_
  case hh3_6 => (intro wq hSw; (try dsimp only at hSw); go_simp; (try (with_reducible rfl)))
  go_frame
  refine wpAnyH_takeD (some 24) (i := 7) (v := ?vh3_7) rfl rfl (by kernel_rfl) (by kernel_rfl) (by kernel_rfl) (fun _ _ _ h => h) (by rfl) ?hh3_7 (by assumption) ?_
  case hh3_7 => (intro wq hSw; (try dsimp only at hSw); go_simp; (try (with_reducible rfl)))
  go_frame
  refine wpAnyH_takeD (some 25) (i := 8) (v := ?vh3_8) rfl rfl (by kernel_rfl) (by kernel_rfl) (by kernel_rfl) (fun _ _ _ h => h) (by rfl) ?hh3_8 (by assumption) ?_
  case hh3_8 => (intro wq hSw; (try dsimp only at hSw); go_simp; (try (with_reducible rfl)))
  go_frame
  refine wpAnyH_ready (rs := [5]) (by kernel_rfl) (by simp) ?_
  refine AllReadyH.cons rfl (fun K hK => ?_) AllReadyH.nil
  go_simp
  refine (H1.out _ hbW.drew).mono ?_; rintro en w2 ⟨rfl, rfl⟩; have hbx2 := hbW.drew; have hR2 := hR.drew
  go_wp2_with fail
  refine hK.out _ _ (trivial) (fun hHeld => ?_)
  clear hK K
  try go_frame
  refine wpAnyH_ready (rs := [9]) (by kernel_rfl) (by simp) ?_
  refine AllReadyH.cons rfl (fun K hK => ?_) AllReadyH.nil
  go_simp
  refine (H2.out _ hbx2).mono ?_; rintro en w3 ⟨rfl, hb3⟩; have hbx3 := hbx2.trans (hb3.mono hbx2.size); have hR3 := hR2.below hb3 hR2.lt
  go_wp2_with fail
  refine hK.out _ _ (trivial) (fun hHeld => ?_)
  clear hK K
  try go_frame
  refine wpAnyH_takeD (some 5) (i := 10) (v := ?vh3_10) rfl rfl (by kernel_rfl) (by kernel_rfl) (by kernel_rfl) (fun _ _ _ h => h) (by rfl) ?hh3_10 (by assumption) ?_
  case hh3_10 => (intro wq hSw; (try dsimp only at hSw); go_simp; (try (with_reducible rfl)))
  go_frame
  refine wpAnyH_ready (rs := [11]) (by kernel_rfl) (by simp) ?_
  refine AllReadyH.cons rfl (fun K hK => ?_) AllReadyH.nil
  rw [if_pos (by rfl)]
  refine wp_store_blk 29 (.tmp 6) (.tmp 26) (by rfl) w.heap.size up.cells (by rfl) (by rfl) 29 zero8 hR3 rfl size_name ?st1 (by rfl) ?_
  case st1 => exact fun u hu => one_nm up hu
  intro w4 hR4 hg4 hs4
  refine hK.out _ _ (trivial) (fun hHeld => ?_)
  clear hK K
  try go_frame
  refine wpAnyH_done (by kernel_rfl) ?_ _
  refine NoPanic.normal ?_
  have hbw4 : Below w.heap.size w w4 := hbx3.grown hg4 hbx3.size (by rintro j ⟨⟩; omega)
  have x4 : rowAt w4 w.heap.size 0 8 = some up.cells := hR4.row 8 rfl
  clear hR hR2 hR3 hbx2 hbx3 hg4 hs4 hbW
  try go_frame
  go_upto_region 9 with fail
  have HLT : Hid (w.heap.size < w4.heap.size) := hR4.lt
  clear hR4
  refine wp_region_noPanic ?_
  refine wp_region_held_drew (S := fun w' => rowAt w' w.heap.size 0 8 = some up.cells) (by kernel_rfl) (x4) (fun hHeld => ?_)
  refine wpAnyH_takeD (some 39) (i := 0) (v := ?vh4_0) rfl rfl (by kernel_rfl) (by kernel_rfl) (by kernel_rfl) (fun _ _ _ h => h) (by rfl) ?hh4_0 (by assumption) ?_
  case hh4_0 => (intro wq hSw; (try dsimp only at hSw); go_simp; (try (with_reducible rfl)))
  go_frame
  refine wpAnyH_takeD (some 40) (i := 1) (v := ?vh4_1) rfl rfl (by kernel_rfl) (by kernel_rfl) (by kernel_rfl) (fun _ _ _ h => h) (by rfl) ?hh4_1 (by assumption) ?_
  case hh4_1 => (intro wq hSw; (try dsimp only at hSw); go_simp; (try (with_reducible rfl)))
  go_frame
  refine wpAnyH_takeD (some 41) (i := 2) (v := ?vh4_2) rfl rfl (by kernel_rfl) (by kernel_rfl) (by kernel_rfl) (fun _ _ _ h => h) (by rfl) ?hh4_2 (by assumption) ?_
  case hh4_2 => (intro wq hSw; (try dsimp only at hSw); go_simp; (try (with_reducible rfl)))
  go_frame
  refine wpAnyH_takeD (some 42) (i := 3) (v := ?vh4_3) rfl rfl (by kernel_rfl) (by kernel_rfl) (by kernel_rfl) (fun _ _ _ h => h) (by rfl) ?hh4_3 (by assumption) ?_
  case hh4_3 => (intro wq hSw; (try dsimp only at hSw); go_simp; (try (with_reducible rfl)))
  go_frame
  refine wpAnyH_takeD (some 43) (i := 4) (v := ?vh4_4) rfl rfl (by kernel_rfl) (by kernel_rfl) (by kernel_rfl) (fun _ _ _ h => h) (by rfl) ?hh4_4 (by assumption) ?_
  case hh4_4 => (intro wq hSw; (try dsimp only at hSw); go_simp; (try (with_reducible rfl)))
  go_frame
  refine wpAnyH_takeD (some 44) (i := 5) (v := ?vh4_5) rfl rfl (by kernel_rfl) (by kernel_rfl) (by kernel_rfl) (fun _ _ _ h => h) (by rfl) ?hh4_5 (by assumption) ?_
  case hh4_5 => (intro wq hSw; (try dsimp only at hSw); go_simp; (try (with_reducible rfl)))
  go_frame
  refine wpAnyH_takeD (some 45) (i := 6) (v := ?vh4_6) rfl rfl (by kernel_rfl) (by kernel_rfl) (by kernel_rfl) (fun _ _ _ h => h) (by rfl) ?hh4_6 (by assumption) ?_
  case hh4_6 => (intro wq hSw; (try dsimp only at hSw); go_simp; (try (with_reducible rfl)))
  go_frame
  refine wpAnyH_ready (rs := [7]) (by kernel_rfl) (by simp) ?_
  refine AllReadyH.cons rfl (fun K hK => ?_) AllReadyH.nil
  go_simp
  refine hK.out _ _ (rowAt_below x4 ((Below.refl _ _).drew.alloc (by simp) _) HLT.out) (fun hHeld => ?_)
  clear hK K
  try go_frame
  refine wpAnyH_ready (rs := [8]) (by kernel_rfl) (by simp) ?_
  refine AllReadyH.cons rfl (fun K hK => ?_) AllReadyH.nil
  rw [if_pos (by rfl)]
  refine wp_app_grows _ (some 47) rfl (.tmp 44) (.tmp 46) _ (by rfl) 29 i0 (Nm.val ⟨0, 0, 0, 0, 0, 0, 0, 0⟩) 8 8 Tryz.underlying22 hi hz0 hz1 hz2 rfl (by decide) none 0 0 [] (by rfl) ?an ?al ?ah ⟨w4.heap.size, 0, none⟩ 1 1 (nmc up) (by rfl) rfl ?ac ?a1 ?af ?ab ?a2 ?_
  case an => exact fun _ => ⟨rfl, rfl⟩
  case al => rfl
  case ah => intro q hq; cases hq
  case ac =>
    intro j u hu
    rw [Addr.add_mid, Nat.zero_add, ← hu]
    simp
  case a1 => exact fun u hu => names_one (l := [up]) (by simpa using hu)
  case af => omega
  case ab => unfold maxLen; omega
  case a2 => omega
  intro v5 w5 hown5 hg5
  have HB5 : Hid (Below w4.heap.size w4 w5) := ((Below.refl _ _).drew.alloc (by simp) _).grown hg5 (by simp) (by rintro j ⟨⟩)
  refine hK.out _ _ (rowAt_below x4 HB5.out HLT.out) (fun hHeld => ?_)
  clear hK K
  try go_frame
  refine wpAnyH_takeD (some 4) (i := 9) (v := ?vh4_9) rfl rfl (by kernel_rfl) (by kernel_rfl) (by kernel_rfl) (fun _ _ _ h => h) (by rfl) ?hh4_9 (by assumption) ?_
  case hh4_9 => (intro wq hSw; (try dsimp only at hSw); go_simp; (try (with_reducible rfl)))
  go_frame
  refine wpAnyH_done (by kernel_rfl) ?_ _
  refine NoPanic.normal ?_
  have hbw5 := hbw4.trans (HB5.out.mono hbw4.size)
  obtain ⟨A5, c5, rfl⟩ := own_form hown5
  go_wp2
  go_ret
  have h0 := H0.out
  subst h0
  have e5 : (p ++ [up]).flatMap nmc = [] ++ nmc up := by rw [List.eq_nil_of_length_eq_zero HP.out]; simp
  exact ⟨A5, c5, rfl, own_base (by rw [e5]; exact hown5) (by have := hbw4.size; simp; omega), hbw5⟩

set_option maxRecDepth 100000 in
set_option maxHeartbeats 2000000 in
theorem climb_ge (d i n k c b o : Nat) (p : List Nm) (up : Nm) (w : World) (hp : p.length = d) (hk : k = 2 ^ d) (hn : n = 2 ^ (d + 1)) (hd : d ≤ 40) (hik : k ≤ i ∧ i < n) (hc : n ≤ c)
    (h1 : ∀ W, Below w.heap.size w W → Calls Tryz.prog 213 #[.slice (some ⟨b, o + k * 8, none⟩) k (c - k), .int .i64 ((i : Int) - (k : Int))] W (RowPost W 29 8 d (p.flatMap nmc)))
    (h2 : ∀ W, Below w.heap.size w W → Calls Tryz.prog 170 #[.slice (some ⟨b, o, none⟩) k k] W (NmPost W up)) :
    Calls Tryz.prog 213 #[.slice (some ⟨b, o, none⟩) n c, .int .i64 (i : Int)] w (RowPost w 29 8 (d + 1) ((p ++ [up]).flatMap nmc)) := by
  obtain ⟨i0, hi, hz0, hz1, hz2⟩ := info_parts info_name
  have HP := Lib.hid hp; clear hp
  have H1 := Lib.hid h1; clear h1
  have H2 := Lib.hid h2; clear h2
  have hk1 : 1 ≤ k := by rw [hk]; exact Nat.one_le_two_pow
  have hkb : k ≤ 1099511627776 := by rw [hk]; exact Nat.pow_le_pow_right (j := 40) (by omega) hd
  have h2k : n = 2 * k := by rw [hn, hk, Nat.pow_succ]; omega
  have hcall : ∀ W, Calls Tryz.prog 189 #[.int .i64 (n : Int)] W fun en w' => en = .returned (.int .i64 (k : Int)) ∧ w' = W := fun W => by
    rw [hk]; exact split_pow d n W hn hd
  have HC := Lib.hid hcall; clear hcall
  have hne1 : ((n : Int) == 1) = false := by rw [beq_eq_false_iff_ne]; omega
  clear hk hn

  subst h2k
  have i1 : (0 : Int) ≤ (k : Int) := by omega
  have i2 : (k : Int) ≤ (c : Int) := by omega
  have i3 : (k : Int) ≤ ((2 * k : Nat) : Int) := by omega
  have i4 : ¬ c = k := by omega
  have i5 : 2 * k - k = k := by omega
  have i6 : ((2 * k : Nat) : Int) ≤ (c : Int) := by omega
  have i7 : decide ((i : Int) < (k : Int)) = false := by simp; omega
  have i8 : IntKind.i64.wrap ((i : Int) - (k : Int)) = (i : Int) - (k : Int) := by rw [IntKind.wrap_i64]; omega
  obtain ⟨n, hn⟩ : ∃ n, n = 2 * k := ⟨_, rfl⟩
  rw [← hn] at hne1 HC i3 i5 i6 ⊢
  clear hn
  go_enter Tryz.func213, Tryz.ntmps213
  go_upto_region 8 with ((go_at_call 189; refine (HC.out _).mono ?_; rintro en w' ⟨rfl, rfl⟩))
  have hR : Blk (w.alloc (Obj.cells zero8 29)) w.heap.size 29 zero8 := Blk.new w _ _
  have hbW : Below w.heap.size w (w.alloc (Obj.cells zero8 29)) := (Below.refl _ _).alloc (Nat.le_refl _) _
  generalize (w.alloc (Obj.cells zero8 29)) = W at *
  refine wp_region_noPanic ?_
  refine wp_region_held_drew (S := fun _ => True) (by kernel_rfl) (trivial) (fun hHeld => ?_)
  refine wpAnyH_takeD (some 27) (i := 0) (v := ?vh5_0) rfl rfl (by kernel_rfl) (by kernel_rfl) (by kernel_rfl) (fun _ _ _ h => h) (by rfl) ?hh5_0 (by assumption) ?_
  case hh5_0 => (intro wq hSw; (try dsimp only at hSw); go_simp; (try (with_reducible rfl)))
  go_frame
  refine wpAnyH_takeD (some 28) (i := 1) (v := ?vh5_1) rfl rfl (by kernel_rfl) (by kernel_rfl) (by kernel_rfl) (fun _ _ _ h => h) (by rfl) ?hh5_1 (by assumption) ?_
  case hh5_1 => (intro wq hSw; (try dsimp only at hSw); go_simp; (try (with_reducible rfl)))
  go_frame
  refine wpAnyH_takeD (some 29) (i := 2) (v := ?vh5_2) rfl rfl (by kernel_rfl) (by kernel_rfl) (by kernel_rfl) (fun _ _ _ h => h) (by rfl) ?hh5_2 (by assumption) ?_
  case hh5_2 => (intro wq hSw; (try dsimp only at hSw); go_simp; (try (with_reducible rfl)))
  go_frame
  refine wpAnyH_takeD (some 30) (i := 3) (v := ?vh5_3) rfl rfl (by kernel_rfl) (by kernel_rfl) (by kernel_rfl) (fun _ _ _ h => h) (by rfl) ?hh5_3 (by assumption) ?_
  case hh5_3 => (intro wq hSw; (try dsimp only at hSw); go_simp; (try (with_reducible rfl)))
  go_frame
  refine wpAnyH_takeD (some 31) (i := 4) (v := ?vh5_4) rfl rfl (by kernel_rfl) (by kernel_rfl) (by kernel_rfl) (fun _ _ _ h => h) (by rfl) ?hh5_4 (by assumption) ?_
  case hh5_4 => (intro wq hSw; (try dsimp only at hSw); go_simp; (try (with_reducible rfl)))
  go_frame
  refine wpAnyH_takeD (some 32) (i := 5) (v := ?vh5_5) rfl rfl (by kernel_rfl) (by kernel_rfl) (by kernel_rfl) (fun _ _ _ h => h) (by rfl) ?hh5_5 (by assumption) ?_
  case hh5_5 => (intro wq hSw; (try dsimp only at hSw); go_simp; (try (with_reducible rfl)))
  go_frame
  refine wpAnyH_takeD (some 34) (i := 7) (v := ?vh5_7) rfl rfl (by kernel_rfl) (by kernel_rfl) (by kernel_rfl) (fun _ _ _ h => h) (by rfl) ?hh5_7 (by assumption) ?_
  case hh5_7 => (intro wq hSw; (try dsimp only at hSw); go_simp; (try (with_reducible rfl)))
  go_frame
  refine wpAnyH_takeD (some 35) (i := 8) (v := ?vh5_8) rfl rfl (by kernel_rfl) (by kernel_rfl) (by kernel_rfl) (fun _ _ _ h => h) (by rfl) ?hh5_8 (by assumption) ?_
  case hh5_8 => (intro wq hSw; (try dsimp only at hSw); go_simp; (try (with_reducible rfl)))
  go_frame
  refine wpAnyH_takeD (some 36) (i := 9) (v := ?vh5_9) rfl rfl (by kernel_rfl) (by kernel_rfl) (by kernel_rfl) (fun _ _ _ h => h) (by rfl) ?hh5_9 (by assumption) ?_
  case hh5_9 => (intro wq hSw; (try dsimp only at hSw); go_simp; (try (with_reducible rfl)))
  go_frame
  refine wpAnyH_takeD (some 37) (i := 10) (v := ?vh5_10) rfl rfl (by kernel_rfl) (by kernel_rfl) (by kernel_rfl) (fun _ _ _ h => h) (by rfl) ?hh5_10 (by assumption) ?_
  case hh5_10 => (intro wq hSw; (try dsimp only at hSw); go_simp; (try (with_reducible rfl)))
  go_frame
  refine wpAnyH_ready (rs := [6]) (by kernel_rfl) (by simp) ?_
  refine AllReadyH.cons rfl (fun K hK => ?_) AllReadyH.nil
  go_simp
  refine (H1.out _ hbW.drew).mono ?_; rintro en w2 ⟨A2, c2, rfl, hown2, hb2⟩; have hbx2 := hbW.drew.trans (hb2.mono hbW.size); have hR2 := hR.drew.below hb2 hR.drew.lt
  go_wp2_with fail
  refine hK.out _ _ (trivial) (fun hHeld => ?_)
  clear hK K
  try go_frame
  refine wpAnyH_ready (rs := [11]) (by kernel_rfl) (by simp) ?_
  refine AllReadyH.cons rfl (fun K hK => ?_) AllReadyH.nil
  go_simp
  refine (H2.out _ hbx2).mono ?_; rintro en w3 ⟨rfl, hb3⟩; have hbx3 := hbx2.trans (hb3.mono hbx2.size); have hR3 := hR2.below hb3 hR2.lt; have hown3 := own_below hown2 hb3 (Nat.le_refl _)
  go_wp2_with fail
  refine hK.out _ _ (trivial) (fun hHeld => ?_)
  clear hK K
  try go_frame
  refine wpAnyH_takeD (some 5) (i := 12) (v := ?vh5_12) rfl rfl (by kernel_rfl) (by kernel_rfl) (by kernel_rfl) (fun _ _ _ h => h) (by rfl) ?hh5_12 (by assumption) ?_
  case hh5_12 => (intro wq hSw; (try dsimp only at hSw); go_simp; (try (with_reducible rfl)))
  go_frame
  refine wpAnyH_ready (rs := [13]) (by kernel_rfl) (by simp) ?_
  refine AllReadyH.cons rfl (fun K hK => ?_) AllReadyH.nil
  rw [if_pos (by rfl)]
  refine wp_store_blk 29 (.tmp 6) (.tmp 38) (by rfl) w.heap.size up.cells (by rfl) (by rfl) 29 zero8 hR3 rfl size_name ?st1 (by rfl) ?_
  case st1 => exact fun u hu => one_nm up hu
  intro w4 hR4 hg4 hs4
  refine hK.out _ _ (trivial) (fun hHeld => ?_)
  clear hK K
  try go_frame
  refine wpAnyH_done (by kernel_rfl) ?_ _
  refine NoPanic.normal ?_
  have hbw4 : Below w.heap.size w w4 := hbx3.grown hg4 hbx3.size (by rintro j ⟨⟩; omega)
  have x4 : rowAt w4 w.heap.size 0 8 = some up.cells := hR4.row 8 rfl
  have hneq : hown3.1 = hown3.1 := rfl
  clear hneq
  have hown4 := hown3.kept hg4 (.inr fun e => by have := (hown3.lt _ e).1; have := hbW.size; have := hR.lt; simp at *; omega)
  have hnz : A2 = none → d = 0 ∧ d = 0 := fun e => by
    rcases hown4.2 with ⟨hv, h0⟩ | ⟨g, cap, cur, hv, _⟩
    · exact ⟨h0, h0⟩
    · injection hv with hA; rw [e] at hA; cases hA
  have HNz := Lib.hid hnz; clear hnz
  have hdc : d ≤ c2 := by
    rcases hown4.2 with ⟨hv, h0⟩ | ⟨g, cap, cur, hv, _, _, h1, h2, _⟩
    · omega
    · injection hv with _ _ hc; omega
  have hrd4 := Rd.of_own hown4
  have j1 : (0 : Int) ≤ (d : Int) := by omega
  have j2 : (d : Int) ≤ (c2 : Int) := by omega
  have HW4 : Hid (w4.ownsRow W.drew.heap.size 29 8 (.slice A2 d c2) d (p.flatMap nmc)) := hown4
  clear hR hR2 hR3 hbx2 hbx3 hg4 hs4 hbW
  try go_frame
  go_upto_region 9 with fail
  have HLT : Hid (w.heap.size < w4.heap.size) := hR4.lt
  clear hR4
  refine wp_region_noPanic ?_
  refine wp_region_held_drew (S := fun w' => rowAt w' w.heap.size 0 8 = some up.cells) (by kernel_rfl) (x4) (fun hHeld => ?_)
  refine wpAnyH_takeD (some 39) (i := 0) (v := ?vh6_0) rfl rfl (by kernel_rfl) (by kernel_rfl) (by kernel_rfl) (fun _ _ _ h => h) (by rfl) ?hh6_0 (by assumption) ?_
  case hh6_0 => (intro wq hSw; (try dsimp only at hSw); go_simp; (try (with_reducible rfl)))
  go_frame
  refine wpAnyH_takeD (some 40) (i := 1) (v := ?vh6_1) rfl rfl (by kernel_rfl) (by kernel_rfl) (by kernel_rfl) (fun _ _ _ h => h) (by rfl) ?hh6_1 (by assumption) ?_
  case hh6_1 => (intro wq hSw; (try dsimp only at hSw); go_simp; (try (with_reducible rfl)))
  go_frame
  refine wpAnyH_takeD (some 41) (i := 2) (v := ?vh6_2) rfl rfl (by kernel_rfl) (by kernel_rfl) (by kernel_rfl) (fun _ _ _ h => h) (by rfl) ?hh6_2 (by assumption) ?_
  case hh6_2 => (intro wq hSw; (try dsimp only at hSw); go_simp; (try (with_reducible rfl)))
  go_frame
  refine wpAnyH_takeD (some 42) (i := 3) (v := ?vh6_3) rfl rfl (by kernel_rfl) (by kernel_rfl) (by kernel_rfl) (fun _ _ _ h => h) (by rfl) ?hh6_3 (by assumption) ?_
  case hh6_3 => (intro wq hSw; (try dsimp only at hSw); go_simp; (try (with_reducible rfl)))
  go_frame
  refine wpAnyH_takeD (some 43) (i := 4) (v := ?vh6_4) rfl rfl (by kernel_rfl) (by kernel_rfl) (by kernel_rfl) (fun _ _ _ h => h) (by rfl) ?hh6_4 (by assumption) ?_
  case hh6_4 => (intro wq hSw; (try dsimp only at hSw); go_simp; (try (with_reducible rfl)))
  go_frame
  refine wpAnyH_takeD (some 44) (i := 5) (v := ?vh6_5) rfl rfl (by kernel_rfl) (by kernel_rfl) (by kernel_rfl) (fun _ _ _ h => h) (by rfl) ?hh6_5 (by assumption) ?_
  case hh6_5 => (intro wq hSw; (try dsimp only at hSw); go_simp; (try (with_reducible rfl)))
  go_frame
  refine wpAnyH_takeD (some 45) (i := 6) (v := ?vh6_6) rfl rfl (by kernel_rfl) (by kernel_rfl) (by kernel_rfl) (fun _ _ _ h => h) (by rfl) ?hh6_6 (by assumption) ?_
  case hh6_6 => (intro wq hSw; (try dsimp only at hSw); go_simp; (try (with_reducible rfl)))
  go_frame
  refine wpAnyH_ready (rs := [7]) (by kernel_rfl) (by simp) ?_
  refine AllReadyH.cons rfl (fun K hK => ?_) AllReadyH.nil
  go_simp
  refine hK.out _ _ (rowAt_below x4 ((Below.refl _ _).drew.alloc (by simp) _) HLT.out) (fun hHeld => ?_)
  clear hK K
  try go_frame
  refine wpAnyH_ready (rs := [8]) (by kernel_rfl) (by simp) ?_
  refine AllReadyH.cons rfl (fun K hK => ?_) AllReadyH.nil
  rw [if_pos (by rfl)]
  refine wp_app_grows _ (some 47) rfl (.tmp 44) (.tmp 46) _ (by rfl) 29 i0 (Nm.val ⟨0, 0, 0, 0, 0, 0, 0, 0⟩) 8 8 Tryz.underlying22 hi hz0 hz1 hz2 rfl (by decide) A2 d d (p.flatMap nmc) (by rfl) ?an ?al ?ah ⟨w4.heap.size, 0, none⟩ 1 1 (nmc up) (by rfl) rfl ?ac ?a1 ?af ?ab ?a2 ?_
  case an => exact HNz.out
  case al => rw [flat_length nmc 8 p (nmc_len p), HP.out]
  case ah =>
    intro q hq j u hu
    rcases hrd4 with h | ⟨b5, o5, e5, _, hc5⟩
    · rw [h] at hu; simp at hu
    · rw [hq] at e5; injection e5 with e5; subst e5
      rw [Addr.add_mid]
      have := hc5 j u hu
      have hlt5 := block_lt_of_cell this
      have e6 := Below.heap_alloc w4 (.cells up.cells 29) b5 hlt5
      show (w4.alloc (.cells up.cells 29)).cell? _ = _
      rw [World.cell?_of_block (a := ⟨b5, o5 + j, none⟩) e6]
      exact this
  case ac =>
    intro j u hu
    rw [Addr.add_mid, Nat.zero_add, ← hu]
    simp
  case a1 => exact fun u hu => names_one (l := [up]) (by simpa using hu)
  case af => omega
  case ab => unfold maxLen; omega
  case a2 => omega
  intro v5 w5 hown5 hg5
  have HB5 : Hid (Below w4.heap.size w4 w5) := ((Below.refl _ _).drew.alloc (by simp) _).grown hg5 (by simp) (by rintro j ⟨⟩)
  refine hK.out _ _ (rowAt_below x4 HB5.out HLT.out) (fun hHeld => ?_)
  clear hK K
  try go_frame
  refine wpAnyH_takeD (some 4) (i := 9) (v := ?vh6_9) rfl rfl (by kernel_rfl) (by kernel_rfl) (by kernel_rfl) (fun _ _ _ h => h) (by rfl) ?hh6_9 (by assumption) ?_
  case hh6_9 => (intro wq hSw; (try dsimp only at hSw); go_simp; (try (with_reducible rfl)))
  go_frame
  refine wpAnyH_done (by kernel_rfl) ?_ _
  refine NoPanic.normal ?_
  have hbw5 := hbw4.trans (HB5.out.mono hbw4.size)
  obtain ⟨A5, c5, rfl⟩ := own_form hown5
  go_wp2
  go_ret
  have e5 : (p ++ [up]).flatMap nmc = p.flatMap nmc ++ nmc up := by simp
  exact ⟨A5, c5, rfl, own_base (by rw [e5]; exact hown5) (by have := hbw4.size; simp; omega), hbw5⟩

set_option maxRecDepth 100000 in
set_option maxHeartbeats 2000000 in
theorem climb_ge0 (d i n k c b o : Nat) (p : List Nm) (up : Nm) (w : World) (hp : p.length = d) (h0 : d = 0) (hk : k = 2 ^ d) (hn : n = 2 ^ (d + 1)) (hd : d ≤ 40) (hik : k ≤ i ∧ i < n) (hc : n ≤ c)
    (h1 : ∀ W, Below w.heap.size w W → Calls Tryz.prog 213 #[.slice (some ⟨b, o + k * 8, none⟩) k (c - k), .int .i64 ((i : Int) - (k : Int))] W (fun e w' => e = .returned (.slice none 0 0) ∧ w' = W))
    (h2 : ∀ W, Below w.heap.size w W → Calls Tryz.prog 170 #[.slice (some ⟨b, o, none⟩) k k] W (NmPost W up)) :
    Calls Tryz.prog 213 #[.slice (some ⟨b, o, none⟩) n c, .int .i64 (i : Int)] w (RowPost w 29 8 (d + 1) ((p ++ [up]).flatMap nmc)) := by
  obtain ⟨i0, hi, hz0, hz1, hz2⟩ := info_parts info_name
  have H0 := Lib.hid h0; clear h0
  have HP := Lib.hid hp; clear hp
  have H1 := Lib.hid h1; clear h1
  have H2 := Lib.hid h2; clear h2
  have hk1 : 1 ≤ k := by rw [hk]; exact Nat.one_le_two_pow
  have hkb : k ≤ 1099511627776 := by rw [hk]; exact Nat.pow_le_pow_right (j := 40) (by omega) hd
  have h2k : n = 2 * k := by rw [hn, hk, Nat.pow_succ]; omega
  have hcall : ∀ W, Calls Tryz.prog 189 #[.int .i64 (n : Int)] W fun en w' => en = .returned (.int .i64 (k : Int)) ∧ w' = W := fun W => by
    rw [hk]; exact split_pow d n W hn hd
  have HC := Lib.hid hcall; clear hcall
  have hne1 : ((n : Int) == 1) = false := by rw [beq_eq_false_iff_ne]; omega
  clear hk hn

  subst h2k
  have i1 : (0 : Int) ≤ (k : Int) := by omega
  have i2 : (k : Int) ≤ (c : Int) := by omega
  have i3 : (k : Int) ≤ ((2 * k : Nat) : Int) := by omega
  have i4 : ¬ c = k := by omega
  have i5 : 2 * k - k = k := by omega
  have i6 : ((2 * k : Nat) : Int) ≤ (c : Int) := by omega
  have i7 : decide ((i : Int) < (k : Int)) = false := by simp; omega
  have i8 : IntKind.i64.wrap ((i : Int) - (k : Int)) = (i : Int) - (k : Int) := by rw [IntKind.wrap_i64]; omega
  obtain ⟨n, hn⟩ : ∃ n, n = 2 * k := ⟨_, rfl⟩
  rw [← hn] at hne1 HC i3 i5 i6 ⊢
  clear hn
  go_enter Tryz.func213, Tryz.ntmps213
  go_upto_region 8 with ((go_at_call 189; refine (HC.out _).mono ?_; rintro en w' ⟨rfl, rfl⟩))
  have hR : Blk (w.alloc (Obj.cells zero8 29)) w.heap.size 29 zero8 := Blk.new w _ _
  have hbW : Below w.heap.size w (w.alloc (Obj.cells zero8 29)) := (Below.refl _ _).alloc (Nat.le_refl _) _
  generalize (w.alloc (Obj.cells zero8 29)) = W at *
  refine wp_region_noPanic ?_
  refine wp_region_held_drew (S := fun _ => True) (by kernel_rfl) (trivial) (fun hHeld => ?_)
  refine wpAnyH_takeD (some 27) (i := 0) (v := ?vh7_0) rfl rfl (by kernel_rfl) (by kernel_rfl) (by kernel_rfl) (fun _ _ _ h => h) (by rfl) ?hh7_0 (by assumption) ?_
  case hh7_0 => (intro wq hSw; (try dsimp only at hSw); go_simp; (try (with_reducible rfl)))
  go_frame
  refine wpAnyH_takeD (some 28) (i := 1) (v := ?vh7_1) rfl rfl (by kernel_rfl) (by kernel_rfl) (by kernel_rfl) (fun _ _ _ h => h) (by rfl) ?hh7_1 (by assumption) ?_
  case hh7_1 => (intro wq hSw; (try dsimp only at hSw); go_simp; (try (with_reducible rfl)))
  go_frame
  refine wpAnyH_takeD (some 29) (i := 2) (v := ?vh7_2) rfl rfl (by kernel_rfl) (by kernel_rfl) (by kernel_rfl) (fun _ _ _ h => h) (by rfl) ?hh7_2 (by assumption) ?_
  case hh7_2 => (intro wq hSw; (try dsimp only at hSw); go_simp; (try (with_reducible rfl)))
  go_frame
  refine wpAnyH_takeD (some 30) (i := 3) (v := ?vh7_3) rfl rfl (by kernel_rfl) (by kernel_rfl) (by kernel_rfl) (fun _ _ _ h => h) (by rfl) ?hh7_3 (by assumption) ?_
  case hh7_3 => (intro wq hSw; (try dsimp only at hSw); go_simp; (try (with_reducible rfl)))
  go_frame
  refine wpAnyH_takeD (some 31) (i := 4) (v := ?vh7_4) rfl rfl (by kernel_rfl) (by kernel_rfl) (by kernel_rfl) (fun _ _ _ h => h) (by rfl) ?hh7_4 (by assumption) ?_
  case hh7_4 => (intro wq hSw; (try dsimp only at hSw); go_simp; (try (with_reducible rfl)))
  go_frame
  refine wpAnyH_takeD (some 32) (i := 5) (v := ?vh7_5) rfl rfl (by kernel_rfl) (by kernel_rfl) (by kernel_rfl) (fun _ _ _ h => h) (by rfl) ?hh7_5 (by assumption) ?_
  case hh7_5 => (intro wq hSw; (try dsimp only at hSw); go_simp; (try (with_reducible rfl)))
  go_frame
  refine wpAnyH_takeD (some 34) (i := 7) (v := ?vh7_7) rfl rfl (by kernel_rfl) (by kernel_rfl) (by kernel_rfl) (fun _ _ _ h => h) (by rfl) ?hh7_7 (by assumption) ?_
  case hh7_7 => (intro wq hSw; (try dsimp only at hSw); go_simp; (try (with_reducible rfl)))
  go_frame
  refine wpAnyH_takeD (some 35) (i := 8) (v := ?vh7_8) rfl rfl (by kernel_rfl) (by kernel_rfl) (by kernel_rfl) (fun _ _ _ h => h) (by rfl) ?hh7_8 (by assumption) ?_
  case hh7_8 => (intro wq hSw; (try dsimp only at hSw); go_simp; (try (with_reducible rfl)))
  go_frame
  refine wpAnyH_takeD (some 36) (i := 9) (v := ?vh7_9) rfl rfl (by kernel_rfl) (by kernel_rfl) (by kernel_rfl) (fun _ _ _ h => h) (by rfl) ?hh7_9 (by assumption) ?_
  case hh7_9 => (intro wq hSw; (try dsimp only at hSw); go_simp; (try (with_reducible rfl)))
  go_frame
  refine wpAnyH_takeD (some 37) (i := 10) (v := ?vh7_10) rfl rfl (by kernel_rfl) (by kernel_rfl) (by kernel_rfl) (fun _ _ _ h => h) (by rfl) ?hh7_10 (by assumption) ?_
  case hh7_10 => (intro wq hSw; (try dsimp only at hSw); go_simp; (try (with_reducible rfl)))
  go_frame
  refine wpAnyH_ready (rs := [6]) (by kernel_rfl) (by simp) ?_
  refine AllReadyH.cons rfl (fun K hK => ?_) AllReadyH.nil
  go_simp
  refine (H1.out _ hbW.drew).mono ?_; rintro en w2 ⟨rfl, rfl⟩; have hbx2 := hbW.drew; have hR2 := hR.drew
  go_wp2_with fail
  refine hK.out _ _ (trivial) (fun hHeld => ?_)
  clear hK K
  try go_frame
  refine wpAnyH_ready (rs := [11]) (by kernel_rfl) (by simp) ?_
  refine AllReadyH.cons rfl (fun K hK => ?_) AllReadyH.nil
  go_simp
  refine (H2.out _ hbx2).mono ?_; rintro en w3 ⟨rfl, hb3⟩; have hbx3 := hbx2.trans (hb3.mono hbx2.size); have hR3 := hR2.below hb3 hR2.lt
  go_wp2_with fail
  refine hK.out _ _ (trivial) (fun hHeld => ?_)
  clear hK K
  try go_frame
  refine wpAnyH_takeD (some 5) (i := 12) (v := ?vh7_12) rfl rfl (by kernel_rfl) (by kernel_rfl) (by kernel_rfl) (fun _ _ _ h => h) (by rfl) ?hh7_12 (by assumption) ?_
  case hh7_12 => (intro wq hSw; (try dsimp only at hSw); go_simp; (try (with_reducible rfl)))
  go_frame
  refine wpAnyH_ready (rs := [13]) (by kernel_rfl) (by simp) ?_
  refine AllReadyH.cons rfl (fun K hK => ?_) AllReadyH.nil
  rw [if_pos (by rfl)]
  refine wp_store_blk 29 (.tmp 6) (.tmp 38) (by rfl) w.heap.size up.cells (by rfl) (by rfl) 29 zero8 hR3 rfl size_name ?st1 (by rfl) ?_
  case st1 => exact fun u hu => one_nm up hu
  intro w4 hR4 hg4 hs4
  refine hK.out _ _ (trivial) (fun hHeld => ?_)
  clear hK K
  try go_frame
  refine wpAnyH_done (by kernel_rfl) ?_ _
  refine NoPanic.normal ?_
  have hbw4 : Below w.heap.size w w4 := hbx3.grown hg4 hbx3.size (by rintro j ⟨⟩; omega)
  have x4 : rowAt w4 w.heap.size 0 8 = some up.cells := hR4.row 8 rfl
  clear hR hR2 hR3 hbx2 hbx3 hg4 hs4 hbW
  try go_frame
  go_upto_region 9 with fail
  have HLT : Hid (w.heap.size < w4.heap.size) := hR4.lt
  clear hR4
  refine wp_region_noPanic ?_
  refine wp_region_held_drew (S := fun w' => rowAt w' w.heap.size 0 8 = some up.cells) (by kernel_rfl) (x4) (fun hHeld => ?_)
  refine wpAnyH_takeD (some 39) (i := 0) (v := ?vh8_0) rfl rfl (by kernel_rfl) (by kernel_rfl) (by kernel_rfl) (fun _ _ _ h => h) (by rfl) ?hh8_0 (by assumption) ?_
  case hh8_0 => (intro wq hSw; (try dsimp only at hSw); go_simp; (try (with_reducible rfl)))
  go_frame
  refine wpAnyH_takeD (some 40) (i := 1) (v := ?vh8_1) rfl rfl (by kernel_rfl) (by kernel_rfl) (by kernel_rfl) (fun _ _ _ h => h) (by rfl) ?hh8_1 (by assumption) ?_
  case hh8_1 => (intro wq hSw; (try dsimp only at hSw); go_simp; (try (with_reducible rfl)))
  go_frame
  refine wpAnyH_takeD (some 41) (i := 2) (v := ?vh8_2) rfl rfl (by kernel_rfl) (by kernel_rfl) (by kernel_rfl) (fun _ _ _ h => h) (by rfl) ?hh8_2 (by assumption) ?_
  case hh8_2 => (intro wq hSw; (try dsimp only at hSw); go_simp; (try (with_reducible rfl)))
  go_frame
  refine wpAnyH_takeD (some 42) (i := 3) (v := ?vh8_3) rfl rfl (by kernel_rfl) (by kernel_rfl) (by kernel_rfl) (fun _ _ _ h => h) (by rfl) ?hh8_3 (by assumption) ?_
  case hh8_3 => (intro wq hSw; (try dsimp only at hSw); go_simp; (try (with_reducible rfl)))
  go_frame
  refine wpAnyH_takeD (some 43) (i := 4) (v := ?vh8_4) rfl rfl (by kernel_rfl) (by kernel_rfl) (by kernel_rfl) (fun _ _ _ h => h) (by rfl) ?hh8_4 (by assumption) ?_
  case hh8_4 => (intro wq hSw; (try dsimp only at hSw); go_simp; (try (with_reducible rfl)))
  go_frame
  refine wpAnyH_takeD (some 44) (i := 5) (v := ?vh8_5) rfl rfl (by kernel_rfl) (by kernel_rfl) (by kernel_rfl) (fun _ _ _ h => h) (by rfl) ?hh8_5 (by assumption) ?_
  case hh8_5 => (intro wq hSw; (try dsimp only at hSw); go_simp; (try (with_reducible rfl)))
  go_frame
  refine wpAnyH_takeD (some 45) (i := 6) (v := ?vh8_6) rfl rfl (by kernel_rfl) (by kernel_rfl) (by kernel_rfl) (fun _ _ _ h => h) (by rfl) ?hh8_6 (by assumption) ?_
  case hh8_6 => (intro wq hSw; (try dsimp only at hSw); go_simp; (try (with_reducible rfl)))
  go_frame
  refine wpAnyH_ready (rs := [7]) (by kernel_rfl) (by simp) ?_
  refine AllReadyH.cons rfl (fun K hK => ?_) AllReadyH.nil
  go_simp
  refine hK.out _ _ (rowAt_below x4 ((Below.refl _ _).drew.alloc (by simp) _) HLT.out) (fun hHeld => ?_)
  clear hK K
  try go_frame
  refine wpAnyH_ready (rs := [8]) (by kernel_rfl) (by simp) ?_
  refine AllReadyH.cons rfl (fun K hK => ?_) AllReadyH.nil
  rw [if_pos (by rfl)]
  refine wp_app_grows _ (some 47) rfl (.tmp 44) (.tmp 46) _ (by rfl) 29 i0 (Nm.val ⟨0, 0, 0, 0, 0, 0, 0, 0⟩) 8 8 Tryz.underlying22 hi hz0 hz1 hz2 rfl (by decide) none 0 0 [] (by rfl) ?an ?al ?ah ⟨w4.heap.size, 0, none⟩ 1 1 (nmc up) (by rfl) rfl ?ac ?a1 ?af ?ab ?a2 ?_
  case an => exact fun _ => ⟨rfl, rfl⟩
  case al => rfl
  case ah => intro q hq; cases hq
  case ac =>
    intro j u hu
    rw [Addr.add_mid, Nat.zero_add, ← hu]
    simp
  case a1 => exact fun u hu => names_one (l := [up]) (by simpa using hu)
  case af => omega
  case ab => unfold maxLen; omega
  case a2 => omega
  intro v5 w5 hown5 hg5
  have HB5 : Hid (Below w4.heap.size w4 w5) := ((Below.refl _ _).drew.alloc (by simp) _).grown hg5 (by simp) (by rintro j ⟨⟩)
  refine hK.out _ _ (rowAt_below x4 HB5.out HLT.out) (fun hHeld => ?_)
  clear hK K
  try go_frame
  refine wpAnyH_takeD (some 4) (i := 9) (v := ?vh8_9) rfl rfl (by kernel_rfl) (by kernel_rfl) (by kernel_rfl) (fun _ _ _ h => h) (by rfl) ?hh8_9 (by assumption) ?_
  case hh8_9 => (intro wq hSw; (try dsimp only at hSw); go_simp; (try (with_reducible rfl)))
  go_frame
  refine wpAnyH_done (by kernel_rfl) ?_ _
  refine NoPanic.normal ?_
  have hbw5 := hbw4.trans (HB5.out.mono hbw4.size)
  obtain ⟨A5, c5, rfl⟩ := own_form hown5
  go_wp2
  go_ret
  have h0 := H0.out
  subst h0
  have e5 : (p ++ [up]).flatMap nmc = [] ++ nmc up := by rw [List.eq_nil_of_length_eq_zero HP.out]; simp
  exact ⟨A5, c5, rfl, own_base (by rw [e5]; exact hown5) (by have := hbw4.size; simp; omega), hbw5⟩

theorem climb_any : ∀ (d i : Nat) (l : List Nm) (b o n c : Nat) (w : World), l.length = n → n = 2 ^ d → d ≤ 40 → n ≤ c → c ≤ maxLen → i < n → Rd w w.heap.size (some ⟨b, o, none⟩) (l.flatMap nmc) →
    Calls Tryz.prog 213 #[.slice (some ⟨b, o, none⟩) n c, .int .i64 (i : Int)] w (RowPost w 29 8 d ((pathF d i l).flatMap nmc))
  | 0, i, l, b, o, n, c, w, hl, hn, _, _, _, _, _ => by
    obtain rfl : n = 1 := hn
    refine (climb_zero _ c i w).mono ?_
    rintro e w' ⟨rfl, rfl⟩
    exact ⟨none, 0, rfl, ⟨rfl, .inl ⟨rfl, rfl⟩⟩, Below.refl _ _⟩
  | d + 1, i, l, b, o, n, c, w, hl, hn, hd, hc, hm, hi, hr => by
    have h2 : n = 2 * 2 ^ d := by rw [hn, Nat.pow_succ]; omega
    have hp : 1 ≤ 2 ^ d := Nat.one_le_two_pow
    have hrt : ∀ W, Below w.heap.size w W → Rd W W.heap.size (some ⟨b, o, none⟩) ((l.take (2 ^ d)).flatMap nmc) := fun W hW => nmTake ((hr.below hW).more hW.size) _
    have hrd : ∀ W, Below w.heap.size w W → Rd W W.heap.size (some ⟨b, o + 2 ^ d * 8, none⟩) ((l.drop (2 ^ d)).flatMap nmc) := fun W hW => nmDrop ((hr.below hW).more hW.size) _
    have ht : (l.take (2 ^ d)).length = 2 ^ d := by rw [List.length_take]; omega
    have hdl : (l.drop (2 ^ d)).length = 2 ^ d := by rw [List.length_drop]; omega
    have R1 : ∀ W, Below w.heap.size w W → Calls Tryz.prog 170 #[.slice (some ⟨b, o + 2 ^ d * 8, none⟩) (2 ^ d) (c - 2 ^ d)] W (NmPost W (rootF d (l.drop (2 ^ d)))) := fun W hW => mroot_any d _ _ _ _ W hdl rfl (by omega) (by omega) (by omega) (hrd W hW)
    have R2 : ∀ W, Below w.heap.size w W → Calls Tryz.prog 170 #[.slice (some ⟨b, o, none⟩) (2 ^ d) (2 ^ d)] W (NmPost W (rootF d (l.take (2 ^ d)))) := fun W hW => mroot_any d _ _ _ _ W ht rfl (by omega) (by omega) (by omega) (hrt W hW)
    rw [pathF]
    split
    · rename_i h
      cases d with
      | zero =>
        exact climb_lt0 0 i n 1 c b o _ _ w (pathF_len 0 i _) rfl rfl hn (by omega) (by omega) hc (fun W hW => climb_zero _ _ i W) R1
      | succ d =>
        exact climb_lt (d + 1) i n (2 ^ (d + 1)) c b o _ _ w (pathF_len _ i _) rfl hn (by omega) (by omega) hc (fun W hW => climb_any (d + 1) i _ b o _ _ W ht rfl (by omega) (by omega) (by omega) (by omega) (hrt W hW)) R1
    · rename_i h
      have hs : ((i - 2 ^ d : Nat) : Int) = (i : Int) - ((2 ^ d : Nat) : Int) := by omega
      cases d with
      | zero =>
        refine climb_ge0 0 i n 1 c b o _ _ w (pathF_len 0 _ _) rfl rfl hn (by omega) (by omega) hc (fun W hW => ?_) R2
        have h1 := climb_zero (some ⟨b, o + 1 * 8, none⟩) (c - 1) (i - 2 ^ 0) W
        rw [hs] at h1
        exact h1
      | succ d =>
        refine climb_ge (d + 1) i n (2 ^ (d + 1)) c b o _ _ w (pathF_len _ _ _) rfl hn (by omega) (by omega) hc (fun W hW => ?_) R2
        have h1 := climb_any (d + 1) (i - 2 ^ (d + 1)) _ b (o + 2 ^ (d + 1) * 8) _ (c - 2 ^ (d + 1)) W hdl rfl (by omega) (by omega) (by omega) (by omega) (hrd W hW)
        rw [hs] at h1
        exact h1

/-- A path and a flag, returned together. -/
def PathPost (w : World) (d : Nat) (p : List Nm) (e : Ending) (w' : World) : Prop :=
  ∃ A c, e = .returned (.tuple #[.slice A d c, .bool true]) ∧ w'.ownsRow w.heap.size 29 8 (.slice A d c) d (p.flatMap nmc) ∧ Below w.heap.size w w'
set_option maxRecDepth 100000 in
set_option maxHeartbeats 1000000 in
theorem path_any (i : Nat) (l : List Nm) (b o c : Nat) (w : World) (hl : l.length = 32) (hc : 32 ≤ c) (hm : c ≤ maxLen) (hi : i < 32) (hr : Rd w w.heap.size (some ⟨b, o, none⟩) (l.flatMap nmc)) :
    Calls Tryz.prog 193 #[.slice (some ⟨b, o, none⟩) 32 c, .int .i64 (i : Int)] w (PathPost w 5 (pathF 5 i l)) := by
  have HD := Lib.hid (fun W => depth32 i W hi)
  have HC := Lib.hid (climb_any 5 i l b o 32 c w hl rfl (by omega) hc hm hi hr)
  obtain ⟨p, hp⟩ : ∃ p, p = pathF 5 i l := ⟨_, rfl⟩
  rw [← hp] at HC ⊢
  clear hp hr
  go_enter Tryz.func193, Tryz.ntmps193
  go_wp2_with (first
    | (go_at_call 163; refine (HD.out _).mono ?_; rintro en w' ⟨rfl, rfl⟩)
    | (go_at_call 213; refine HC.out.mono ?_; rintro en w2 ⟨A2, c2, rfl, hown2, hb2⟩))
  go_ret2
  exact ⟨A2, c2, rfl, hown2, hb2⟩
end Go.Proofs.YthmecidpjlaonaaGreat
