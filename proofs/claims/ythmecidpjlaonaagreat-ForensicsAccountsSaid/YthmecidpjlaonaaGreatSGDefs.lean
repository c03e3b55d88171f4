/-
  Zero values, literals of signed votes and pairs, rows of a pair; append in a drawn region; the first error of an element (faultF). No condition.
  Bytes turned into a string. Condition: the bytes lie in memory.
  Bits of small masks. No condition.
  evidence.Decode of too few and of too many bytes. No condition.
-/
import Derived.Test.YthmecidpjlaonaaGreatSGLess
import Derived.Test.YthmecidpjlaonaaGreatSBuild
import Derived.Test.YthmecidpjlaonaaGreatSMem
import Derived.Laws.IdiomStrings
import Derived.Laws.BytesArg
import Derived.WalkMore
import Derived.ScopeJumps
import Derived.Test.YthmecidpjlaonaaGreatSBase
namespace Go.Proofs.YthmecidpjlaonaaGreat
open Go.RowKit

abbrev zeroVc : Array Value := #[.int .i64 0, .int .i64 0, .int .i64 0, .int .i64 0, .int .i64 0, .int .i64 0, .int .u8 0, .int .u8 0, .int .u8 0, .int .u8 0, .int .u8 0, .int .u8 0, .int .u8 0, .int .u8 0, .int .u8 0, .int .u8 0, .int .u8 0, .int .u8 0, .int .u8 0, .int .u8 0, .int .u8 0, .int .u8 0]
theorem one_vt {u : Value} (v : Vt) (h : u ∈ v.cells.toList) : u.oneCell' = true := by
  simp at h
  rcases h with rfl | rfl | rfl | rfl | rfl | rfl | rfl | rfl | rfl | rfl | rfl | rfl | rfl | rfl | rfl | rfl | rfl | rfl | rfl | rfl | rfl | rfl <;> rfl
theorem wp_appD {P : Program} {w : World} {o : Oper} {a : Act} {K : Act → World → Prop} {Q : Exit → Act → World → Prop} (d : Option Tmp) (hd : o.dst = d) (s x : Operand) (t : TypeId)
    (ho : o.op = .call { callee := .builtin .append, args := #[s, x], argTypes := #[t, t] })
    (base : Nat) (e : TypeId) (z : Value) (size bytes : Nat) (ht : P.underlying t = some (.slice e)) (hi : (P.info? e).map (fun i => (i.zero, i.size, i.bytes)) = some (some z, size, bytes)) (hzs : z.cells.size = size) (hsz : 0 < size)
    (v : Value) (n : Nat) (xs : List Value) (hs : a.eval s = v) (hown : w.ownsRow base e size v n xs)
    (B : Nat) (A : Option Addr) (m c : Nat) (news : List Value) (hx : a.eval x = .slice A m c) (hl : news.length = m * size) (hr : Rd w B A news) (h1 : ∀ u ∈ news, u.oneCell' = true)
    (hbytes : (n + m) * bytes ≤ 140737488355328) (h63 : n + m ≤ maxLen) (hbase : base ≤ w.heap.size)
    (h : ∀ v' w', w'.ownsRow base e size v' (n + m) (xs ++ news) → w.grownBy w' v.ownBlock → (v'.ownBlock = v.ownBlock ∨ v'.ownBlock = some w.heap.size) → K (a.put d v') w') :
    o.wp P a w K Q := by
  subst hd
  exact wp_app s x t ho base e z size bytes ht hi hzs hsz v n xs hs hown B A m c news hx hl hr h1 hbytes h63 hbase h
theorem own_addr {w : World} {base e size n c : Nat} {A : Option Addr} {xs : List Value} (h : w.ownsRow base e size (.slice A n c) n xs) (p : Addr) (hp : A = some p) : base ≤ p.block := by
  rcases h.2 with ⟨hv, _⟩ | ⟨g, cap, cur, hv, hb, _⟩
  · injection hv with hA; rw [hp] at hA; cases hA
  · injection hv with hA; rw [hp] at hA; injection hA with hA; subst hA; exact hb
theorem Rd.kept {w w' : World} {B' : Nat} {A : Option Addr} {xs : List Value} {row : Option Nat} (h : Rd w B' A xs) (hg : w.grownBy w' row) (hB : B' ≤ w.heap.size) (hne : ∀ p, A = some p → some p.block ≠ row) : Rd w' B' A xs := by
  rcases h with h | ⟨b, o, rfl, hb, hc⟩
  · exact .inl h
  · exact .inr ⟨b, o, rfl, hb, fun j u hu => (World.cell?_of_block (a := ⟨b, o + j, none⟩) (hg.block b (by omega) (hne _ rfl))).trans (hc j u hu)⟩
abbrev zeroSc : Array Value := #[.int .i64 0, .int .i64 0, .int .i64 0, .int .i64 0, .int .i64 0, .int .i64 0, .int .u8 0, .int .u8 0, .int .u8 0, .int .u8 0, .int .u8 0, .int .u8 0, .int .u8 0, .int .u8 0, .int .u8 0, .int .u8 0, .int .u8 0, .int .u8 0, .int .u8 0, .int .u8 0, .int .u8 0, .int .u8 0, .slice none 0 0]
theorem one_zs {u : Value} (h : u ∈ zeroSc.toList) : u.oneCell' = true := by
  simp at h
  rcases h with rfl | rfl | rfl <;> rfl
theorem one_sg {u : Value} (s : Sg) (h : u ∈ s.cells.toList) : u.oneCell' = true := by
  unfold Sg.cells at h
  rw [Array.toList_push, List.mem_append] at h
  rcases h with h | h
  · exact one_vt _ h
  · simp at h; subst h; rfl
theorem size_sg : (Tryz.prog.info? 34).map (·.size) = some 23 := by kernel_rfl
abbrev zeroEc : Array Value := #[.int .i64 0, .int .i64 0, .int .i64 0, .int .i64 0, .int .i64 0, .int .i64 0, .int .u8 0, .int .u8 0, .int .u8 0, .int .u8 0, .int .u8 0, .int .u8 0, .int .u8 0, .int .u8 0, .int .u8 0, .int .u8 0, .int .u8 0, .int .u8 0, .int .u8 0, .int .u8 0, .int .u8 0, .int .u8 0, .slice none 0 0, .int .i64 0, .int .i64 0, .int .i64 0, .int .i64 0, .int .i64 0, .int .i64 0, .int .u8 0, .int .u8 0, .int .u8 0, .int .u8 0, .int .u8 0, .int .u8 0, .int .u8 0, .int .u8 0, .int .u8 0, .int .u8 0, .int .u8 0, .int .u8 0, .int .u8 0, .int .u8 0, .int .u8 0, .int .u8 0, .slice none 0 0]
theorem one_ze {u : Value} (h : u ∈ zeroEc.toList) : u.oneCell' = true := by
  simp at h
  rcases h with rfl | rfl | rfl | rfl | rfl | rfl <;> rfl
theorem one_ev {u : Value} (e : Ev) (h : u ∈ e.cells.toList) : u.oneCell' = true := by
  unfold Ev.cells at h
  rw [Array.toList_append, List.mem_append] at h
  rcases h with h | h
  · exact one_sg _ h
  · exact one_sg _ h
abbrev sgLit (v : Vt) (x : Value) : Array Value := #[I v.kind, I v.slot, I v.round, I v.choice, I v.signer, I v.support, B v.parent.b0, B v.parent.b1, B v.parent.b2, B v.parent.b3, B v.parent.b4, B v.parent.b5, B v.parent.b6, B v.parent.b7, B v.value.b0, B v.value.b1, B v.value.b2, B v.value.b3, B v.value.b4, B v.value.b5, B v.value.b6, B v.value.b7, x]
abbrev evLit (v : Vt) (x : Value) (v' : Vt) (x' : Value) : Array Value := #[I v.kind, I v.slot, I v.round, I v.choice, I v.signer, I v.support, B v.parent.b0, B v.parent.b1, B v.parent.b2, B v.parent.b3, B v.parent.b4, B v.parent.b5, B v.parent.b6, B v.parent.b7, B v.value.b0, B v.value.b1, B v.value.b2, B v.value.b3, B v.value.b4, B v.value.b5, B v.value.b6, B v.value.b7, x, I v'.kind, I v'.slot, I v'.round, I v'.choice, I v'.signer, I v'.support, B v'.parent.b0, B v'.parent.b1, B v'.parent.b2, B v'.parent.b3, B v'.parent.b4, B v'.parent.b5, B v'.parent.b6, B v'.parent.b7, B v'.value.b0, B v'.value.b1, B v'.value.b2, B v'.value.b3, B v'.value.b4, B v'.value.b5, B v'.value.b6, B v'.value.b7, x']
theorem sg_lit (v : Vt) (sig : List UInt8) (A : Option Addr) (c : Nat) : (Sg.mk v sig A c).cells = sgLit v (.slice A sig.length c) := rfl
theorem ev_lit (v : Vt) (sig : List UInt8) (A : Option Addr) (c : Nat) (v' : Vt) (sig' : List UInt8) (A' : Option Addr) (c' : Nat) :
    (Ev.mk ⟨v, sig, A, c⟩ ⟨v', sig', A', c'⟩).cells = evLit v (.slice A sig.length c) v' (.slice A' sig'.length c') := by
  simp [Ev.cells, Sg.cells]
theorem size_ev : (Tryz.prog.info? 51).map (·.size) = some 46 := by kernel_rfl
/-- The first error of an element behind one of the signer before. -/
def faultF (keys : List Nm) (a : Vt) (asig : List UInt8) (b : Vt) (bsig : List UInt8) (before : Int) : Int :=
  if ConfP a b ∧ lessV a b = true then
    if a.signer ≤ before then 10
    else if (keys.length : Int) ≤ a.signer then 8
    else if verS (keys.getD a.signer.toNat Nm.zero) a asig = true ∧ verS (keys.getD a.signer.toNat Nm.zero) b bsig = true then 0 else 8
  else 9
/-- The call returns a number, and leaves what was there. -/
def IntPost (w : World) (n : Int) (e : Ending) (w' : World) : Prop := e = .returned (.int .i64 n) ∧ Below w.heap.size w w'
theorem Ev.row_va {w : World} {g t : Nat} (e : Ev) (h : Blk w g t e.cells) : rowAt w g 0 22 = some e.a.vote.cells :=
  Blk.part h 0 e.a.vote.cells (fun j u hu => by rw [Nat.zero_add]; exact e.cell_a j u (e.a.cell_vote j u hu))
theorem Ev.row_vb {w : World} {g t : Nat} (e : Ev) (h : Blk w g t e.cells) : rowAt w g 23 22 = some e.b.vote.cells :=
  Blk.part h 23 e.b.vote.cells (fun j u hu => e.cell_b j u (e.b.cell_vote j u hu))
theorem Ev.row_a {w : World} {g t : Nat} (e : Ev) (h : Blk w g t e.cells) : rowAt w g 0 23 = some e.a.cells := by
  have := Blk.part h 0 e.a.cells (fun j u hu => by rw [Nat.zero_add]; exact e.cell_a j u hu)
  rwa [Sg.size_cells] at this
theorem Ev.row_b {w : World} {g t : Nat} (e : Ev) (h : Blk w g t e.cells) : rowAt w g 23 23 = some e.b.cells := by
  have := Blk.part h 23 e.b.cells (fun j u hu => e.cell_b j u hu)
  rwa [Sg.size_cells] at this
theorem Rd.row {w : World} {B' : Nat} {b o : Nat} {l : List Nm} {k : Nat} {x : Nm} (h : Rd w B' (some ⟨b, o, none⟩) (l.flatMap nmc)) (hk : l[k]? = some x) : rowAt w b (o + k * 8) 8 = some x.cells := by
  obtain ⟨b', o', e, _, hc⟩ := h.name hk
  injection e with e
  injection e with e1 e2
  subst e1; subst e2
  exact rowAt_of (fun j u hu => hc j u (by simpa using hu)) rfl
end Go.Proofs.YthmecidpjlaonaaGreat
namespace Go.Proofs.YthmecidpjlaonaaGreat
open Go.RowKit

end Go.Proofs.YthmecidpjlaonaaGreat
namespace Go.Proofs.YthmecidpjlaonaaGreat
open Go.RowKit

theorem i64_or (a b : Nat) (ha : a < 9223372036854775808) (hb : b < 9223372036854775808) : bits .or .i64 (a : Int) (b : Int) = ((a ||| b : Nat) : Int) := by
  have hx : a ||| b < 2 ^ 63 := Nat.or_lt_two_pow (by omega) (by omega)
  show IntKind.i64.wrap ((BitVec.ofInt 64 (a : Int) ||| BitVec.ofInt 64 (b : Int)).toNat : Int) = _
  rw [BitVec.toNat_or, BitVec.ofInt_natCast, BitVec.ofInt_natCast, BitVec.toNat_ofNat, BitVec.toNat_ofNat, Nat.mod_eq_of_lt (by omega), Nat.mod_eq_of_lt (by omega), IntKind.wrap_i64]
  omega
theorem or_lt10 (m s : Nat) (hm : m < 1024) (hs : s ≤ 9) : m ||| 2 ^ s < 1024 :=
  Nat.or_lt_two_pow (n := 10) hm (Nat.pow_lt_pow_right (by omega) (by omega))
theorem shl_one (s : Nat) (hs : s ≤ 9) (w : World) : (Op.shift .shl .i64 1 .i64 (s : Int)).run Tryz.prog w = .ok (.int .i64 ((2 ^ s : Nat) : Int)) w := by
  rcases (by omega : s = 0 ∨ s = 1 ∨ s = 2 ∨ s = 3 ∨ s = 4 ∨ s = 5 ∨ s = 6 ∨ s = 7 ∨ s = 8 ∨ s = 9) with rfl | rfl | rfl | rfl | rfl | rfl | rfl | rfl | rfl | rfl <;> kernel_rfl
theorem or_pow (m s : Nat) (hm : m < 1024) (hs : s ≤ 9) : Value.int .i64 (bits .or .i64 (m : Int) (wrap64 (2 ^ s))) = .int .i64 ((m ||| 2 ^ s : Nat) : Int) := by
  have h2 : 2 ^ s < 1024 := Nat.pow_lt_pow_right (n := 10) (by omega) (by omega)
  have e : wrap64 ((2 : Int) ^ s) = ((2 ^ s : Nat) : Int) := by
    rw [IntWalk.wrap64_in _ ⟨?_, ?_⟩]
    · simp
    · have : (0 : Int) ≤ (2 : Int) ^ s := Int.le_of_lt (Int.pow_pos (by omega))
      omega
    · have : ((2 ^ s : Nat) : Int) = (2 : Int) ^ s := by simp
      omega
  rw [e, i64_or m (2 ^ s) (by omega) (by omega)]
end Go.Proofs.YthmecidpjlaonaaGreat
namespace Go.Proofs.YthmecidpjlaonaaGreat
open Go.RowKit
attribute [local go_sem ↓] Go.wp_at_zero Go.wp_at_succ loadNm loadVt loadSg loadEv
attribute [local go_sem] runNm runVt runSg runEv pickRow_some rowAt_drew rowAt_drewN
/-- The call returns a pair whose signatures lie in new memory. -/
def EDecOk (w : World) (v : Vt) (sig : List UInt8) (v' : Vt) (sig' : List UInt8) (e : Ending) (w' : World) : Prop :=
  ∃ A c A' c', e = .returned (.tuple #[(Ev.mk ⟨v, sig, A, c⟩ ⟨v', sig', A', c'⟩).val, .int .i64 0]) ∧ (∀ p, A = some p → w.heap.size ≤ p.block) ∧ (∀ p, A' = some p → w.heap.size ≤ p.block) ∧ Rd w' w'.heap.size A (sig.map B) ∧ sig.length ≤ c ∧ c ≤ maxLen ∧ Rd w' w'.heap.size A' (sig'.map B) ∧ sig'.length ≤ c' ∧ c' ≤ maxLen ∧ Below w.heap.size w w'
/-- The call returns an error number, and no pair. -/
def EDecErr (w : World) (n : Int) (e : Ending) (w' : World) : Prop := e = .returned (.tuple #[.agg zeroEc, .int .i64 n]) ∧ Below w.heap.size w w'

end Go.Proofs.YthmecidpjlaonaaGreat
