/-
  merkle.Follow, and the reference's, among 32 names with a path of five: the root that follows, and true. Condition: the path lies in memory below the call.
  Plain mathematics of the one-time and many-time signatures: digits, chains, public names, the root that a signature shows. No condition.
  Plain mathematics of votes: one key, conflict, order; what bytes decode to. No condition.
-/
import Derived.Test.YthmecidpjlaonaaGreatSGComp
import Derived.Laws.ResultCell
namespace Go.Proofs.YthmecidpjlaonaaGreat
open Go.RowKit

/-- A name in its own block and a flag, returned together. -/
theorem results_row_tmp {P : Program} {fn : Func} {p u : Tmp} {ty : TypeId} (h : fn.results = #[.cell p ty, .tmp u]) (tmps : Array Value) (w : World) (g : Nat) (t : TypeId) (cs : Array Value) (fr : Nat × Nat) (d : TypeDesc)
    (hp : tmps.getD p undef = .pointer (some ⟨g, 0, none⟩)) (hg : w.heap[g]? = some (.cells cs t fr))
    (hu : P.underlying ty = some d) (hd : (match d with | .struct _ | .array _ _ => true | _ => false) = true) (hi : (P.info? ty).map (·.size) = some cs.size) :
    (results fn tmps).run P w = .ok (.tuple #[.agg cs, tmps.getD u undef]) w := by
  rw [results_cell_tmp h, hp]
  simp [asAddr, Sem.run_pure, Result.andThen, run_loadVar_row w g t ty cs fr d hg hu hd hi]

set_option maxRecDepth 100000 in
set_option maxHeartbeats 1000000 in
theorem mfollow_any (leaf r : Nm) (i c b o : Nat) (w : World) (hi : i < 32)
    (h1 : ∀ W, Below w.heap.size w W → Calls Tryz.prog 164 #[leaf.val, .int .i64 (i : Int), .int .i64 32, .slice (some ⟨b, o, none⟩) 5 c] W (NmPost W r)) :
    Calls Tryz.prog 132 #[leaf.val, .int .i64 (i : Int), .int .i64 32, .slice (some ⟨b, o, none⟩) 5 c] w fun e w' => e = .returned (.tuple #[r.val, .bool true]) ∧ Below w.heap.size w w' := by
  have H1 := Lib.hid h1; clear h1
  have HD := Lib.hid (fun W => depth32 i W hi)
  go_enter Tryz.func132, Tryz.ntmps132
  go_wp2_with ((go_at_call 163; refine (HD.out _).mono ?_; rintro en w' ⟨rfl, rfl⟩))
  have hR : Blk ((w.alloc (Obj.cells leaf.cells 29)).alloc (Obj.cells #[.int .u8 0, .int .u8 0, .int .u8 0, .int .u8 0, .int .u8 0, .int .u8 0, .int .u8 0, .int .u8 0] 29)) (w.heap.size + 1) 29 #[.int .u8 0, .int .u8 0, .int .u8 0, .int .u8 0, .int .u8 0, .int .u8 0, .int .u8 0, .int .u8 0] := by
    have := Blk.new (w.alloc (Obj.cells leaf.cells 29)) 29 #[.int .u8 0, .int .u8 0, .int .u8 0, .int .u8 0, .int .u8 0, .int .u8 0, .int .u8 0, .int .u8 0]
    simpa using this
  have hbW : Below w.heap.size w ((w.alloc (Obj.cells leaf.cells 29)).alloc (Obj.cells #[.int .u8 0, .int .u8 0, .int .u8 0, .int .u8 0, .int .u8 0, .int .u8 0, .int .u8 0, .int .u8 0] 29)) := ((Below.refl _ _).alloc (Nat.le_refl _) _).alloc (by simp) _
  generalize ((w.alloc (Obj.cells leaf.cells 29)).alloc (Obj.cells #[.int .u8 0, .int .u8 0, .int .u8 0, .int .u8 0, .int .u8 0, .int .u8 0, .int .u8 0, .int .u8 0] 29)) = W at *
  refine (H1.out W hbW).mono ?_
  rintro en w5 ⟨rfl, hb5⟩
  have hZ5 := hR.below hb5 hR.lt
  have hbw5 := hbW.trans (hb5.mono hbW.size)
  clear hR hbW hb5
  go_wp2_with (refine wpList_store_blk rfl 29 (.tmp 8) (.tmp 27) rfl (w.heap.size + 1) _ rfl rfl 29 _ hZ5 rfl size_name ?s2 ?_)
  case s2 => exact ⟨rfl, rfl, rfl, rfl, rfl, rfl, rfl, rfl⟩
  intro w6 hZ6 hg6 hs6
  have hbw6 : Below w.heap.size w w6 := hbw5.grown hg6 hbw5.size (by rintro j ⟨⟩; omega)
  go_wp2
  exact bodyPost_ret (results_row_tmp (g := w.heap.size + 1) (cs := r.cells) rfl _ _ _ _ _ rfl hZ6 Tryz.underlying29 rfl size_name) rfl ⟨rfl, hbw6⟩

end Go.Proofs.YthmecidpjlaonaaGreat
namespace Go.Proofs.YthmecidpjlaonaaGreat
open Go.RowKit

/-- The digits of bytes, two a byte. -/
def digL (l : List UInt8) : List Nat := l.flatMap fun b => [b.toNat / 16, b.toNat % 16]
/-- Their sum. -/
def digS (l : List UInt8) : Nat := (l.map fun b => b.toNat / 16 + b.toNat % 16).sum
/-- The 18 digits of a name. -/
def digits (m : Nm) : List Nat := digL m.bytes ++ [(240 - digS m.bytes) / 16, (240 - digS m.bytes) % 16]
abbrev N (n : Nat) : Value := .int .i64 (n : Int)

theorem digL_snoc (l : List UInt8) (b : UInt8) : digL (l ++ [b]) = digL l ++ [b.toNat / 16, b.toNat % 16] := by simp [digL]
theorem digS_snoc (l : List UInt8) (b : UInt8) : digS (l ++ [b]) = digS l + (b.toNat / 16 + b.toNat % 16) := by simp [digS]
theorem digS_le : ∀ l : List UInt8, digS l ≤ 30 * l.length
  | [] => by simp [digS]
  | b :: r => by
    have h := digS_le r
    have hb := b.toNat_lt
    simp only [digS, List.map_cons, List.sum_cons, List.length_cons] at *
    omega
theorem digL_length : ∀ l : List UInt8, (digL l).length = 2 * l.length
  | [] => rfl
  | b :: r => by
    have h := digL_length r
    simp only [digL, List.flatMap_cons, List.length_append, List.length_cons, List.length_nil] at *
    omega
theorem digL_le : ∀ (l : List UInt8) (d : Nat), d ∈ digL l → d ≤ 15
  | [], d, h => by simp [digL] at h
  | b :: r, d, h => by
    have hb := b.toNat_lt
    simp only [digL, List.flatMap_cons, List.mem_append, List.mem_cons, List.not_mem_nil, or_false] at h
    rcases h with (h | h) | h
    · omega
    · omega
    · exact digL_le r d (by simpa [digL] using h)
theorem digits_length (m : Nm) : (digits m).length = 18 := by simp [digits, digL_length, Nm.bytes]
theorem digits_le (m : Nm) (d : Nat) (h : d ∈ digits m) : d ≤ 15 := by
  have hs := digS_le m.bytes
  have hl : m.bytes.length = 8 := rfl
  simp only [digits, List.mem_append, List.mem_cons, List.not_mem_nil, or_false] at h
  rcases h with h | h | h
  · exact digL_le _ d h
  · omega
  · omega
theorem take_snoc' {α : Type} (l : List α) (k : Nat) (h : k < l.length) : l.take (k + 1) = l.take k ++ [l[k]] := List.take_succ_eq_append_getElem h

/-- n steps of chain c from position p on. -/
def walkF (v : Nm) (c p : Nat) : Nat → Nm
  | 0 => v
  | n + 1 => sumF (33 :: ((walkF v c p n).bytes ++ [UInt8.ofNat c, UInt8.ofNat (p + n)]))
/-- The public name of the ends of the chains. -/
def pubF (l : List Nm) : Nm := sumF (34 :: l.flatMap Nm.bytes)
/-- The end of chain c of a signature. -/
def endF (m : Nm) (sig : List Nm) (c : Nat) : Nm := walkF (sig.getD c Nm.zero) c ((digits m).getD c 0) (15 - (digits m).getD c 0)
/-- The public name that a one-time signature shows. -/
def recF (m : Nm) (sig : List Nm) : Nm := pubF ((List.range 18).map (endF m sig))
/-- The name at an offset. -/
def nameAt (b : List UInt8) (at_ : Nat) : Nm := Nm.ofList (b.drop at_)
/-- n names from an offset on. -/
def namesF (b : List UInt8) (at_ n : Nat) : List Nm := (List.range n).map fun i => nameAt b (at_ + 8 * i)
/-- The root that a part of a signature shows. -/
def climbF (sig : List UInt8) (at_ j : Nat) (m : Nm) : Nm := followF (recF m (namesF sig at_ 18)) 5 j (namesF sig (at_ + 144) 5)
/-- The leaf that a signature names. -/
def leafN (sig : List UInt8) : Nat := (sig.getD 0 0).toNat * 256 + (sig.getD 1 0).toNat
/-- A signature of two levels verifies. -/
def verF (pub m : Nm) (sig : List UInt8) : Bool :=
  decide (sig.length = 370) && (decide (leafN sig < 1024) && decide (climbF sig 186 (leafN sig / 32) (climbF sig 2 (leafN sig % 32) m) = pub))
end Go.Proofs.YthmecidpjlaonaaGreat
namespace Go.Proofs.YthmecidpjlaonaaGreat
open Go.RowKit

def SameP (a b : Vt) : Prop := a.kind = b.kind ∧ a.parent = b.parent ∧ a.slot = b.slot ∧ a.round = b.round ∧ a.signer = b.signer
instance (a b : Vt) : Decidable (SameP a b) := by unfold SameP; infer_instance
def ConfP (a b : Vt) : Prop := a ≠ b ∧ SameP a b ∧ ValidP a ∧ ValidP b
instance (a b : Vt) : Decidable (ConfP a b) := by unfold ConfP; infer_instance
theorem ConfP.symm {a b : Vt} (h : ConfP a b) : ConfP b a :=
  ⟨fun e => h.1 e.symm, ⟨h.2.1.1.symm, h.2.1.2.1.symm, h.2.1.2.2.1.symm, h.2.1.2.2.2.1.symm, h.2.1.2.2.2.2.symm⟩, h.2.2.2, h.2.2.1⟩

/-- The order of names. -/
def lessN (a b : Nm) : Bool := decide (numN a.bytes < numN b.bytes)
/-- The order of votes. -/
def lessV (a b : Vt) : Bool :=
  if a.parent = b.parent then
    if a.slot = b.slot then
      if a.round = b.round then
        if a.kind = b.kind then
          if a.signer = b.signer then
            if a.choice = b.choice then
              if a.value = b.value then decide (a.support < b.support) else lessN a.value b.value
            else decide (a.choice < b.choice)
          else decide (a.signer < b.signer)
        else decide (a.kind < b.kind)
      else decide (a.round < b.round)
    else decide (a.slot < b.slot)
  else lessN a.parent b.parent

abbrev zeroV : Vt := ⟨0, 0, 0, 0, 0, 0, Nm.zero, Nm.zero⟩
/-- The vote that 23 bytes spell. -/
def decV (l : List UInt8) : Vt := ⟨((l.getD 0 0).toNat : Int), ((l.getD 1 0).toNat : Int), ((l.getD 2 0).toNat : Int), ((l.getD 3 0).toNat : Int), ((l.getD 4 0).toNat : Int),
  (((l.getD 5 0).toNat * 256 + (l.getD 6 0).toNat : Nat) : Int), Nm.ofList (l.drop 7), Nm.ofList (l.drop 15)⟩
theorem decV_ok (l : List UInt8) : (decV l).ok := by
  have h1 := (l.getD 5 0).toNat_lt
  have h2 := (l.getD 6 0).toNat_lt
  unfold Vt.ok decV
  simp only
  omega
/-- What bytes decode to, and the error. -/
def decVote (l : List UInt8) : Vt × Int :=
  if l.length < 23 then (zeroV, 2) else if 23 < l.length then (zeroV, 3) else if ValidP (decV l) then (decV l, 0) else (zeroV, 11)
/-- The name that a signer of a vote signs. -/
def nameF (v : Vt) : Nm := sumF (64 :: encB v)
/-- A signed vote verifies under a key. -/
def verS (key : Nm) (v : Vt) (sig : List UInt8) : Bool := decide (ValidP v) && verF key (nameF v) sig
end Go.Proofs.YthmecidpjlaonaaGreat
