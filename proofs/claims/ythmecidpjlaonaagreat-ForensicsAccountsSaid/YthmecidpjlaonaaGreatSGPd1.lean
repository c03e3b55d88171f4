/-
  Where the bodies and the types of Go's sort.Slice lie in this program. No condition.
  Go's pattern-defeating quicksort, by a 'less' that may lay blocks: its helpers permute the list that lies in a block. First part: siftDown, heapSort, reverseRange. Condition: the two function values that they are handed compare and swap.
  Go's pattern-defeating quicksort, by a 'less' that may lay blocks: heapSort, reverseRange and insertionSort permute the list that lies in a block. Condition: the two function values that they are handed compare and swap.
  Go's pattern-defeating quicksort, by a 'less' that may lay blocks: order2, median, medianAdjacent and choosePivot read the list and name a place in it. Condition: the two function values that they are handed compare and swap.
-/
import Derived.Shelf.SlSortFuncK.WholeK
import Derived.Test.YthmecidpjlaonaaGreatSBase
import Derived.Test.YthmecidpjlaonaaGreatSGStP
import Derived.Deep.DeepCutAuto
namespace Go.Proofs.YthmecidpjlaonaaGreat
open Go.Shelf

def slRen : Ren :=
{
  f := fun x =>
    match x with
    | 6 => 111
    | 10 => 117
    | 11 => 118
    | 12 => 120
    | 13 => 143
    | 14 => 144
    | 24 => 178
    | 25 => 179
    | 26 => 154
    | 27 => 180
    | 28 => 181
    | 29 => 182
    | 30 => 183
    | 31 => 184
    | 32 => 185
    | 33 => 186
    | 34 => 207
    | 35 => 208
    | 36 => 209
    | 37 => 210
    | 38 => 211
    | 39 => 217
    | n => n,
  t := fun x =>
    match x with
    | 20 => 20
    | 26 => 107
    | 35 => 148
    | 0 => 0
    | 37 => 150
    | 3 => 3
    | 41 => 103
    | 44 => 154
    | 49 => 142
    | 51 => 45
    | 4 => 4
    | 54 => 193
    | 53 => 192
    | 58 => 126
    | 5 => 5
    | 9 => 9
    | 60 => 205
    | 64 => 209
    | 66 => 213
    | 67 => 214
    | 17 => 17
    | 32 => 145
    | 33 => 146
    | 82 => 231
    | 12 => 12
    | 75 => 224
    | 76 => 225
    | 77 => 226
    | 78 => 227
    | 79 => 228
    | 80 => 229
    | n => n,
  g := fun n => n }
theorem slLays : LaysGg.n6 Tryz.prog slRen where
  mixed := by kernel_rfl
  f6 := Eq.trans Tryz.func111 (by kernel_rfl)
  f10 := Eq.trans Tryz.func117 (by kernel_rfl)
  f11 := Eq.trans Tryz.func118 (by kernel_rfl)
  f12 := Eq.trans Tryz.func120 (by kernel_rfl)
  f13 := Eq.trans Tryz.func143 (by kernel_rfl)
  f14 := Eq.trans Tryz.func144 (by kernel_rfl)
  f24 := Eq.trans Tryz.func178 (by kernel_rfl)
  f25 := Eq.trans Tryz.func179 (by kernel_rfl)
  f26 := Eq.trans Tryz.func154 (by kernel_rfl)
  f27 := Eq.trans Tryz.func180 (by kernel_rfl)
  f28 := Eq.trans Tryz.func181 (by kernel_rfl)
  f29 := Eq.trans Tryz.func182 (by kernel_rfl)
  f30 := Eq.trans Tryz.func183 (by kernel_rfl)
  f31 := Eq.trans Tryz.func184 (by kernel_rfl)
  f32 := Eq.trans Tryz.func185 (by kernel_rfl)
  f33 := Eq.trans Tryz.func186 (by kernel_rfl)
  f34 := Eq.trans Tryz.func207 (by kernel_rfl)
  f35 := Eq.trans Tryz.func208 (by kernel_rfl)
  f36 := Eq.trans Tryz.func209 (by kernel_rfl)
  f37 := Eq.trans Tryz.func210 (by kernel_rfl)
  f38 := Eq.trans Tryz.func211 (by kernel_rfl)
  f39 := Eq.trans Tryz.func217 (by kernel_rfl)
  t0 := Tryz.underlying0
  a0 := Tryz.isAgg0
  z0 := Tryz.sizeOf0
  v0 := Tryz.zeroValue0
  i0 := by kernel_rfl
  t3 := Tryz.underlying3
  a3 := Tryz.isAgg3
  z3 := Tryz.sizeOf3
  v3 := Tryz.zeroValue3
  i3 := by kernel_rfl
  t4 := Tryz.underlying4
  a4 := Tryz.isAgg4
  z4 := Tryz.sizeOf4
  v4 := Tryz.zeroValue4
  i4 := by kernel_rfl
  t5 := Tryz.underlying5
  a5 := Tryz.isAgg5
  z5 := Tryz.sizeOf5
  v5 := Tryz.zeroValue5
  i5 := by kernel_rfl
  t9 := Tryz.underlying9
  a9 := Tryz.isAgg9
  z9 := Tryz.sizeOf9
  v9 := Tryz.zeroValue9
  i9 := by kernel_rfl
  t12 := Tryz.underlying12
  a12 := Tryz.isAgg12
  z12 := Tryz.sizeOf12
  v12 := Tryz.zeroValue12
  i12 := by kernel_rfl
  t17 := Tryz.underlying17
  a17 := Tryz.isAgg17
  z17 := Tryz.sizeOf17
  v17 := Tryz.zeroValue17
  i17 := by kernel_rfl
  t20 := Tryz.underlying20
  a20 := Tryz.isAgg20
  z20 := Tryz.sizeOf20
  v20 := Tryz.zeroValue20
  i20 := by kernel_rfl
  t26 := Tryz.underlying107
  a26 := Tryz.isAgg107
  z26 := Tryz.sizeOf107
  v26 := Tryz.zeroValue107
  i26 := by kernel_rfl
  t32 := Tryz.underlying145
  a32 := Tryz.isAgg145
  z32 := Tryz.sizeOf145
  v32 := Tryz.zeroValue145
  i32 := by kernel_rfl
  t33 := Tryz.underlying146
  a33 := Tryz.isAgg146
  z33 := Tryz.sizeOf146
  v33 := Tryz.zeroValue146
  i33 := by kernel_rfl
  t35 := Tryz.underlying148
  a35 := Tryz.isAgg148
  z35 := Tryz.sizeOf148
  v35 := Tryz.zeroValue148
  i35 := by kernel_rfl
  t37 := Tryz.underlying150
  a37 := Tryz.isAgg150
  z37 := Tryz.sizeOf150
  v37 := Tryz.zeroValue150
  i37 := by kernel_rfl
  t41 := Tryz.underlying103
  a41 := Tryz.isAgg103
  z41 := Tryz.sizeOf103
  v41 := Tryz.zeroValue103
  i41 := by kernel_rfl
  t44 := Tryz.underlying154
  a44 := Tryz.isAgg154
  z44 := Tryz.sizeOf154
  v44 := Tryz.zeroValue154
  i44 := by kernel_rfl
  t49 := Tryz.underlying142
  a49 := Tryz.isAgg142
  z49 := Tryz.sizeOf142
  v49 := Tryz.zeroValue142
  i49 := by kernel_rfl
  t51 := Tryz.underlying45
  a51 := Tryz.isAgg45
  z51 := Tryz.sizeOf45
  v51 := Tryz.zeroValue45
  i51 := by kernel_rfl
  t53 := Tryz.underlying192
  a53 := Tryz.isAgg192
  z53 := Tryz.sizeOf192
  v53 := Tryz.zeroValue192
  i53 := by kernel_rfl
  t54 := Tryz.underlying193
  a54 := Tryz.isAgg193
  z54 := Tryz.sizeOf193
  v54 := Tryz.zeroValue193
  i54 := by kernel_rfl
  t58 := Tryz.underlying126
  a58 := Tryz.isAgg126
  z58 := Tryz.sizeOf126
  v58 := Tryz.zeroValue126
  i58 := by kernel_rfl
  t60 := Tryz.underlying205
  a60 := Tryz.isAgg205
  z60 := Tryz.sizeOf205
  v60 := Tryz.zeroValue205
  i60 := by kernel_rfl
  t64 := Tryz.underlying209
  a64 := Tryz.isAgg209
  z64 := Tryz.sizeOf209
  v64 := Tryz.zeroValue209
  i64 := by kernel_rfl
  t66 := Tryz.underlying213
  a66 := Tryz.isAgg213
  z66 := Tryz.sizeOf213
  v66 := Tryz.zeroValue213
  i66 := by kernel_rfl
  t67 := Tryz.underlying214
  a67 := Tryz.isAgg214
  z67 := Tryz.sizeOf214
  v67 := Tryz.zeroValue214
  i67 := by kernel_rfl
  t75 := Tryz.underlying224
  a75 := Tryz.isAgg224
  z75 := Tryz.sizeOf224
  v75 := Tryz.zeroValue224
  i75 := by kernel_rfl
  t76 := Tryz.underlying225
  a76 := Tryz.isAgg225
  z76 := Tryz.sizeOf225
  v76 := Tryz.zeroValue225
  i76 := by kernel_rfl
  t77 := Tryz.underlying226
  a77 := Tryz.isAgg226
  z77 := Tryz.sizeOf226
  v77 := Tryz.zeroValue226
  i77 := by kernel_rfl
  t78 := Tryz.underlying227
  a78 := Tryz.isAgg227
  z78 := Tryz.sizeOf227
  v78 := Tryz.zeroValue227
  i78 := by kernel_rfl
  t79 := Tryz.underlying228
  a79 := Tryz.isAgg228
  z79 := Tryz.sizeOf228
  v79 := Tryz.zeroValue228
  i79 := by kernel_rfl
  t80 := Tryz.underlying229
  a80 := Tryz.isAgg229
  z80 := Tryz.sizeOf229
  v80 := Tryz.zeroValue229
  i80 := by kernel_rfl
  t82 := Tryz.underlying231
  a82 := Tryz.isAgg231
  z82 := Tryz.sizeOf231
  v82 := Tryz.zeroValue231
  i82 := by kernel_rfl
end Go.Proofs.YthmecidpjlaonaaGreat
namespace Go.Proofs.YthmecidpjlaonaaGreat
open Go.RowKit

/-- How an element lies in memory, and what lies behind the last one. -/
structure CellsOf (α : Type) where
  enc : α → List Value
  tail : List Value
section
variable {α : Type} {c : CellsOf α} {t : TypeId} {w0 : World} {g n f F : Nat} {sb lb : Array Value} {lt : α → α → Bool} {l0 : List α}

/-- Block g holds the elements of l, and the tail; nothing else of the world w0 has turned. -/
structure RowE (c : CellsOf α) (t : TypeId) (w0 : World) (g : Nat) (l : List α) (w : World) : Prop where
  blk : Blk w g t (l.flatMap c.enc ++ c.tail).toArray
  kept : w0.grownBy w (some g)
theorem RowE.self {l : List α} {w : World} (h : Blk w g t (l.flatMap c.enc ++ c.tail).toArray) : RowE c t w g l w := ⟨h, one_refl w g⟩
theorem RowE.trans {l l' : List α} {w w' : World} (h : RowE c t w0 g l w) (h' : RowE c t w g l' w') : RowE c t w0 g l' w' := ⟨h'.blk, h.kept.trans h'.kept⟩
theorem RowE.alloc {l : List α} {w : World} (h : RowE c t w0 g l w) (o : Obj) : RowE c t w0 g l (w.alloc o) := ⟨h.blk.alloc o, one_alloc h.kept o⟩
theorem RowE.below {l : List α} {w w' : World} (h : RowE c t w0 g l w) (hb : Below w.heap.size w w') : RowE c t w0 g l w' :=
  ⟨h.blk.below hb h.blk.lt, h.kept.trans ⟨hb.os, hb.tape, hb.output, hb.size, fun i hi _ => hb.block i hi⟩⟩
theorem RowE.off {l : List α} {w w' : World} {o : Obj} (h : RowE c t (w.alloc o) g l w') : RowE c t w g l w' := ⟨h.blk, (grown_alloc w o (some g)).trans h.kept⟩
theorem RowE.box {l : List α} {w : World} {k : Nat} {tb : TypeId} {cs : Array Value} (h : RowE c t w0 g l w) (hB : Blk w0 k tb cs) (hk : k ≠ g) : Blk w k tb cs := hB.kept h.kept (by simpa using hk)
/-- What the sort asks of 'less'. -/
def LessE (c : CellsOf α) (t : TypeId) (w0 : World) (g : Nat) (l0 : List α) (lt : α → α → Bool) (f : Nat) (lb : Array Value) : Prop :=
  ∀ (W : World) (l : List α) (i j : Nat) (x y : α), RowE c t w0 g l W → l.Perm l0 → l[i]? = some x → l[j]? = some y →
    Calls Tryz.prog f (#[.int .i64 (i : Int), .int .i64 (j : Int)] ++ lb) W fun e w' => e = .returned (.bool (lt x y)) ∧ Below W.heap.size W w'
/-- What 'swap' must do, at equal places too. -/
def SwapAll (c : CellsOf α) (t : TypeId) (w0 : World) (g n : Nat) (f : Nat) (sb : Array Value) : Prop :=
  ∀ (W : World) (l : List α) (i j : Nat), RowE c t w0 g l W → l.length = n → i < n → j < n → 2 ≤ n →
    ∃ W', (callFunc f (#[.int .i64 (i : Int), .int .i64 (j : Int)] ++ sb)).run Tryz.prog W = .ok (.value (.tuple #[])) W' ∧ ∃ l', l'.Perm l ∧ RowE c t W g l' W'
/-- What the sort is given. -/
structure Srt (c : CellsOf α) (t : TypeId) (w0 : World) (g n f F : Nat) (sb lb : Array Value) (lt : α → α → Bool) (l0 : List α) : Prop where
  eg : ∀ args w, (callFunc F args).run Tryz.prog w = .ok (.enter F args) w
  le : LessE c t w0 g l0 lt F lb
  sw : SwapAll c t w0 g n f sb
  len : l0.length = n
  small : n ≤ 1000000
/-- Block g holds the list in some order; all else that was in B is as it was. -/
def PRow (c : CellsOf α) (t : TypeId) (g : Nat) (l0 : List α) (B V : World) : Prop := ∃ l', RowE c t B g l' V ∧ l'.Perm l0
theorem PRow.trans {A B V : World} (h : PRow c t g l0 A B) (h' : PRow c t g l0 B V) : PRow c t g l0 A V := by
  obtain ⟨l, h1, _⟩ := h
  obtain ⟨l', h2, h3⟩ := h'
  exact ⟨l', h1.trans h2, h3⟩
theorem PRow.self {A B : World} (h : PRow c t g l0 A B) : PRow c t g l0 B B := by
  obtain ⟨l, h1, h2⟩ := h
  exact ⟨l, RowE.self h1.blk, h2⟩
theorem PRow.glt {A B : World} (h : PRow c t g l0 A B) : g < B.heap.size := by
  obtain ⟨l, h1, _⟩ := h
  exact h1.blk.lt
theorem PRow.alloc {A B : World} (h : PRow c t g l0 A B) (o : Obj) : PRow c t g l0 A (B.alloc o) := by
  obtain ⟨l, h1, h2⟩ := h
  exact ⟨l, h1.alloc o, h2⟩
theorem PRow.off {A V : World} {o : Obj} (h : PRow c t g l0 (A.alloc o) V) : PRow c t g l0 A V := by
  obtain ⟨l, h1, h2⟩ := h
  exact ⟨l, h1.off, h2⟩
theorem PRow.below {A V W : World} (h : PRow c t g l0 A V) (hb : Below V.heap.size V W) : PRow c t g l0 A W := by
  obtain ⟨l, h1, h2⟩ := h
  exact ⟨l, h1.below hb, h2⟩
theorem PRow.box {A V : World} (h : PRow c t g l0 A V) {k : Nat} {tb : TypeId} {cs : Array Value} (hB : Blk A k tb cs) (hk : k ≠ g) : Blk V k tb cs := by
  obtain ⟨l, h1, _⟩ := h
  exact h1.box hB hk
theorem PRow.size {A V : World} (h : PRow c t g l0 A V) : A.heap.size ≤ V.heap.size := by
  obtain ⟨l, h1, _⟩ := h
  exact h1.kept.size
theorem Srt.less {B V : World} (H : Srt c t w0 g n f F sb lb lt l0) (hB : PRow c t g l0 w0 B) (hV : PRow c t g l0 B V) (i j : Nat) (hi : i < n) (hj : j < n) :
    Calls Tryz.prog F (#[.int .i64 (i : Int), .int .i64 (j : Int)] ++ lb) V fun e w' => ∃ k, e = .returned (.bool k) ∧ PRow c t g l0 B w' := by
  obtain ⟨l, h1, h2⟩ := hV
  obtain ⟨m, h3, _⟩ := hB
  have hl : l.length = n := h2.length_eq.trans H.len
  obtain ⟨x, hx⟩ : ∃ x, l[i]? = some x := ⟨_, List.getElem?_eq_getElem (by omega)⟩
  obtain ⟨y, hy⟩ : ∃ y, l[j]? = some y := ⟨_, List.getElem?_eq_getElem (by omega)⟩
  refine (H.le V l i j x y (h3.trans h1) h2 hx hy).mono ?_
  rintro e w' ⟨rfl, hb⟩
  exact ⟨_, rfl, l, h1.below hb, h2⟩
theorem Srt.swap {B V : World} (H : Srt c t w0 g n f F sb lb lt l0) (hB : PRow c t g l0 w0 B) (hV : PRow c t g l0 B V) (i j : Nat) (hi : i < n) (hj : j < n) (hn2 : 2 ≤ n) :
    ∃ W', (callFunc f (#[.int .i64 (i : Int), .int .i64 (j : Int)] ++ sb)).run Tryz.prog V = .ok (.value (.tuple #[])) W' ∧ PRow c t g l0 B W' := by
  obtain ⟨l, h1, h2⟩ := hV
  obtain ⟨m, h3, _⟩ := hB
  obtain ⟨W', hr, l', hp, hw⟩ := H.sw V l i j (h3.trans h1) (h2.length_eq.trans H.len) hi hj hn2
  exact ⟨W', hr, l', h1.trans hw, hp.trans h2⟩

set_option maxRecDepth 100000 in
set_option maxHeartbeats 4000000 in
theorem siftDown_any (H : Srt c t w0 g n f F sb lb lt l0) (lo hi first : Nat) (w : World) (hw : PRow c t g l0 w0 w) (hh : first + hi ≤ n) (hlo : lo ≤ n) :
    Calls Tryz.prog 207 #[.agg #[.func (.func F) #[] lb, .func (.func f) #[] sb], .int .i64 (lo : Int), .int .i64 (hi : Int), .int .i64 (first : Int)] w fun e w' => e = .returned (.tuple #[]) ∧ PRow c t g l0 w w' := by
  have HH := Lib.hid H
  have hgw : g < w.heap.size := hw.glt
  obtain ⟨B, hB⟩ : ∃ B, B = w.alloc (.cells #[.func (.func F) #[] lb, .func (.func f) #[] sb] 154) := ⟨_, rfl⟩
  have h0B : PRow c t g l0 w0 B := by rw [hB]; exact hw.alloc _
  have hBB : PRow c t g l0 B B := h0B.self
  have hBx : Blk B w.heap.size 154 #[.func (.func F) #[] lb, .func (.func f) #[] sb] := by rw [hB]; exact Blk.new _ _ _
  have HOff : Hid (∀ V, PRow c t g l0 B V → PRow c t g l0 w V) := fun V h => by rw [hB] at h; exact h.off
  have HB0 := Lib.hid h0B
  have HC : Hid (∀ V, PRow c t g l0 B V → V.cell? ⟨w.heap.size, 0, none⟩ = some (.func (.func F) #[] lb) ∧ V.cell? ⟨w.heap.size, 1, none⟩ = some (.func (.func f) #[] sb)) := fun V h => ⟨(h.box hBx (by omega)).cell 0, (h.box hBx (by omega)).cell 1⟩
  have eg := H.eg
  have hn6 := H.small
  have HW := Lib.hid hB
  have HBB := Lib.hid hBB
  clear hw hB h0B hBB hBx H
  go_enter Tryz.func207, Tryz.ntmps207
  go_upto_region 1 with fail
  simp only [← HW.out]
  go_upto_region 2 with fail
  go_loopw [8] (fun rv wr => ∃ r : Nat, rv = .int .i64 (r : Int) ∧ r ≤ n ∧ Hid (PRow c t g l0 B wr)) (fun rv _ => n - (intOf rv).toNat)
  case atStart => exact ⟨lo, rfl, hlo, HBB⟩
  case round =>
    obtain ⟨r, rfl, hr, HP⟩ := hrel
    obtain ⟨c0, c1⟩ := HC.out _ HP.out
    by_cases h1 : 2 * r + 1 < hi
    · have d1 : decide ((hi : Int) ≤ 2 * (r : Int) + 1) = false := by simp; omega
      by_cases h2 : 2 * r + 1 + 1 < hi
      · have d2 : decide (2 * (r : Int) + 1 + 1 < (hi : Int)) = true := by simp; omega
        go_wp2_with fail
        have hl := HH.out.less HB0.out HP.out (first + (2 * r + 1)) (first + (2 * r + 1) + 1) (by omega) (by omega)
        try push_cast at hl
        refine hl.mono ?_
        clear hl
        rintro en w4 ⟨k4, rfl, hp⟩
        have HP4 := Lib.hid hp
        obtain ⟨c0, c1⟩ := HC.out _ hp
        clear hp
        cases k4 with
        | true =>
          go_wp2_with fail
          have hl := HH.out.less HB0.out HP4.out (first + r) (first + (2 * r + 1 + 1)) (by omega) (by omega)
          try push_cast at hl
          refine hl.mono ?_
          clear hl
          rintro en w5 ⟨k5, rfl, hp⟩
          have HP5 := Lib.hid hp
          obtain ⟨c0, c1⟩ := HC.out _ hp
          clear hp
          cases k5 with
          | false =>
            go_wp2
            first
              | go_end0
              | refine bodyPost_ret (results_none rfl _ _ _) rfl ?_
            exact ⟨rfl, HOff.out _ HP5.out⟩
          | true =>
            obtain ⟨w6, hrun, hp⟩ := HH.out.swap HB0.out HP5.out (first + r) (first + (2 * r + 1 + 1)) (by omega) (by omega) (by omega)
            try push_cast at hrun
            have HP6 := Lib.hid hp
            obtain ⟨c0', c1'⟩ := HC.out _ hp
            clear hp
            go_wp2
            go_roundw
            case rel => exact ⟨2 * r + 1 + 1, by go_num, by omega, HP6⟩
            case measure => simp [intOf]; omega
        | false =>
          go_wp2_with fail
          have hl := HH.out.less HB0.out HP4.out (first + r) (first + (2 * r + 1)) (by omega) (by omega)
          try push_cast at hl
          refine hl.mono ?_
          clear hl
          rintro en w5 ⟨k5, rfl, hp⟩
          have HP5 := Lib.hid hp
          obtain ⟨c0, c1⟩ := HC.out _ hp
          clear hp
          cases k5 with
          | false =>
            go_wp2
            first
              | go_end0
              | refine bodyPost_ret (results_none rfl _ _ _) rfl ?_
            exact ⟨rfl, HOff.out _ HP5.out⟩
          | true =>
            obtain ⟨w6, hrun, hp⟩ := HH.out.swap HB0.out HP5.out (first + r) (first + (2 * r + 1)) (by omega) (by omega) (by omega)
            try push_cast at hrun
            have HP6 := Lib.hid hp
            obtain ⟨c0', c1'⟩ := HC.out _ hp
            clear hp
            go_wp2
            go_roundw
            case rel => exact ⟨2 * r + 1, by go_num, by omega, HP6⟩
            case measure => simp [intOf]; omega
      · have d2 : decide (2 * (r : Int) + 1 + 1 < (hi : Int)) = false := by simp; omega
        go_wp2_with fail
        have hl := HH.out.less HB0.out HP.out (first + r) (first + (2 * r + 1)) (by omega) (by omega)
        try push_cast at hl
        refine hl.mono ?_
        clear hl
        rintro en w5 ⟨k5, rfl, hp⟩
        have HP5 := Lib.hid hp
        obtain ⟨c0, c1⟩ := HC.out _ hp
        clear hp
        cases k5 with
        | false =>
          go_wp2
          first
            | go_end0
            | refine bodyPost_ret (results_none rfl _ _ _) rfl ?_
          exact ⟨rfl, HOff.out _ HP5.out⟩
        | true =>
          obtain ⟨w6, hrun, hp⟩ := HH.out.swap HB0.out HP5.out (first + r) (first + (2 * r + 1)) (by omega) (by omega) (by omega)
          try push_cast at hrun
          have HP6 := Lib.hid hp
          obtain ⟨c0', c1'⟩ := HC.out _ hp
          clear hp
          go_wp2
          go_roundw
          case rel => exact ⟨2 * r + 1, by go_num, by omega, HP6⟩
          case measure => simp [intOf]; omega
    · have d1 : decide ((hi : Int) ≤ 2 * (r : Int) + 1) = true := by simp; omega
      go_wp2
      first
        | go_end0
        | refine bodyPost_ret (results_none rfl _ _ _) rfl ?_
      exact ⟨rfl, HOff.out _ HP.out⟩
end
end Go.Proofs.YthmecidpjlaonaaGreat
namespace Go.Proofs.YthmecidpjlaonaaGreat
open Go.RowKit

section
variable {α : Type} {c : CellsOf α} {t : TypeId} {w0 : World} {g n f F : Nat} {sb lb : Array Value} {lt : α → α → Bool} {l0 : List α}

set_option maxRecDepth 100000 in
set_option maxHeartbeats 4000000 in
theorem heapSort_any (H : Srt c t w0 g n f F sb lb lt l0) (a b : Nat) (w : World) (hw : PRow c t g l0 w0 w) (hab : a + 1 < b) (hb : b ≤ n) :
    Calls Tryz.prog 180 #[.agg #[.func (.func F) #[] lb, .func (.func f) #[] sb], .int .i64 (a : Int), .int .i64 (b : Int)] w fun e w' => e = .returned (.tuple #[]) ∧ PRow c t g l0 w w' := by
  obtain ⟨L, rfl⟩ : ∃ L, b = a + L := ⟨b - a, by omega⟩
  have hL : (((a + L : Nat) : Int) - (a : Int)) = (L : Int) := by omega
  push_cast at hL
  have HH := Lib.hid H
  have hgw : g < w.heap.size := hw.glt
  obtain ⟨B, hB⟩ : ∃ B, B = w.alloc (.cells #[.func (.func F) #[] lb, .func (.func f) #[] sb] 154) := ⟨_, rfl⟩
  have h0B : PRow c t g l0 w0 B := by rw [hB]; exact hw.alloc _
  have hBB : PRow c t g l0 B B := h0B.self
  have hBx : Blk B w.heap.size 154 #[.func (.func F) #[] lb, .func (.func f) #[] sb] := by rw [hB]; exact Blk.new _ _ _
  have HOff : Hid (∀ V, PRow c t g l0 B V → PRow c t g l0 w V) := fun V h => by rw [hB] at h; exact h.off
  have HB0 := Lib.hid h0B
  have HC : Hid (∀ V, PRow c t g l0 B V → V.cell? ⟨w.heap.size, 0, none⟩ = some (.func (.func F) #[] lb) ∧ V.cell? ⟨w.heap.size, 1, none⟩ = some (.func (.func f) #[] sb)) := fun V h => ⟨(h.box hBx (by omega)).cell 0, (h.box hBx (by omega)).cell 1⟩
  have eg := H.eg
  have hn6 := H.small
  have HW := Lib.hid hB
  have HBB := Lib.hid hBB
  clear hw hB h0B hBB hBx H
  go_enter Tryz.func180, Tryz.ntmps180
  go_upto_region 1 with fail
  simp only [← HW.out]
  push_cast
  go_upto_region 5 with fail
  go_loopw [9] (fun iv wr => ∃ z : Int, iv = .int .i64 z ∧ -1 ≤ z ∧ z < n ∧ Hid (PRow c t g l0 B wr)) (fun iv _ => (intOf iv + 1).toNat)
  case atStart => exact ⟨_, rfl, by omega, by omega, HBB⟩
  case round =>
    obtain ⟨z, rfl, hz, hzn, HP⟩ := hrel
    obtain ⟨c0, c1⟩ := HC.out _ HP.out
    by_cases h1 : 0 ≤ z
    · have d1 : decide (0 ≤ z) = true := by simp; omega
      obtain ⟨m, rfl⟩ : ∃ m : Nat, z = (m : Int) := ⟨z.toNat, by omega⟩
      go_wp2_with (go_at_call 207; refine (siftDown_any HH.out m L a _ (HB0.out.trans HP.out) (by omega) (by omega)).mono ?_; rintro en w5 ⟨rfl, hp⟩; have HP5 := Lib.hid (HP.out.trans hp); obtain ⟨c0, c1⟩ := HC.out _ (HP.out.trans hp); clear hp)
      go_roundw
      case rel => exact ⟨_, rfl, by omega, by omega, HP5⟩
      case measure => simp [intOf]
    · have d1 : decide (0 ≤ z) = false := by simp; omega
      go_wp2
      go_loopw [10] (fun iv wr => ∃ z : Int, iv = .int .i64 z ∧ -1 ≤ z ∧ z < (L : Int) ∧ Hid (PRow c t g l0 B wr)) (fun iv _ => (intOf iv + 1).toNat)
      case atStart => exact ⟨_, rfl, by omega, by omega, HP⟩
      case round =>
        obtain ⟨y, rfl, hy, hyn, HP⟩ := hrel
        obtain ⟨c0, c1⟩ := HC.out _ HP.out
        by_cases h2 : 0 ≤ y
        · have d2 : decide (0 ≤ y) = true := by simp; omega
          obtain ⟨m, rfl⟩ : ∃ m : Nat, y = (m : Int) := ⟨y.toNat, by omega⟩
          obtain ⟨w6, hrun, hp⟩ := HH.out.swap HB0.out HP.out (a) (a + m) (by omega) (by omega) (by omega)
          try push_cast at hrun
          have HP6 := Lib.hid hp
          obtain ⟨c0', c1'⟩ := HC.out _ hp
          clear hp
          go_wp2_with (go_at_call 207; refine (siftDown_any HH.out 0 m a _ (HB0.out.trans HP6.out) (by omega) (by omega)).mono ?_; rintro en w7 ⟨rfl, hp⟩; have HP7 := Lib.hid (HP6.out.trans hp); obtain ⟨c0, c1⟩ := HC.out _ (HP6.out.trans hp); clear hp)
          go_roundw
          case rel => exact ⟨_, rfl, by omega, by omega, HP7⟩
          case measure => simp [intOf]
        · have d2 : decide (0 ≤ y) = false := by simp; omega
          go_wp2
          first
            | go_end0
            | refine bodyPost_ret (results_none rfl _ _ _) rfl ?_
          exact ⟨rfl, HOff.out _ HP.out⟩
set_option maxRecDepth 100000 in
set_option maxHeartbeats 4000000 in
theorem reverseRange_any (H : Srt c t w0 g n f F sb lb lt l0) (a b : Nat) (w : World) (hw : PRow c t g l0 w0 w) (hab : a < b) (hb : b ≤ n) :
    Calls Tryz.prog 183 #[.agg #[.func (.func F) #[] lb, .func (.func f) #[] sb], .int .i64 (a : Int), .int .i64 (b : Int)] w fun e w' => e = .returned (.tuple #[]) ∧ PRow c t g l0 w w' := by
  have HH := Lib.hid H
  have hgw : g < w.heap.size := hw.glt
  obtain ⟨B, hB⟩ : ∃ B, B = w.alloc (.cells #[.func (.func F) #[] lb, .func (.func f) #[] sb] 154) := ⟨_, rfl⟩
  have h0B : PRow c t g l0 w0 B := by rw [hB]; exact hw.alloc _
  have hBB : PRow c t g l0 B B := h0B.self
  have hBx : Blk B w.heap.size 154 #[.func (.func F) #[] lb, .func (.func f) #[] sb] := by rw [hB]; exact Blk.new _ _ _
  have HOff : Hid (∀ V, PRow c t g l0 B V → PRow c t g l0 w V) := fun V h => by rw [hB] at h; exact h.off
  have HB0 := Lib.hid h0B
  have HC : Hid (∀ V, PRow c t g l0 B V → V.cell? ⟨w.heap.size, 0, none⟩ = some (.func (.func F) #[] lb) ∧ V.cell? ⟨w.heap.size, 1, none⟩ = some (.func (.func f) #[] sb)) := fun V h => ⟨(h.box hBx (by omega)).cell 0, (h.box hBx (by omega)).cell 1⟩
  have eg := H.eg
  have hn6 := H.small
  have HW := Lib.hid hB
  have HBB := Lib.hid hBB
  clear hw hB h0B hBB hBx H
  go_enter Tryz.func183, Tryz.ntmps183
  go_upto_region 1 with fail
  simp only [← HW.out]
  go_upto_region 3 with fail
  go_loopw [6, 7] (fun iv jv wr => ∃ i j : Nat, iv = .int .i64 (i : Int) ∧ jv = .int .i64 (j : Int) ∧ i ≤ n ∧ j < n ∧ Hid (PRow c t g l0 B wr)) (fun _ jv _ => (intOf jv).toNat)
  case atStart => exact ⟨a, b - 1, rfl, by go_num, by omega, by omega, HBB⟩
  case round =>
    obtain ⟨i, j, rfl, rfl, hi, hj, HP⟩ := hrel
    obtain ⟨c0, c1⟩ := HC.out _ HP.out
    by_cases h1 : i < j
    · have d1 : decide ((i : Int) < (j : Int)) = true := by simp; omega
      obtain ⟨w5, hrun, hp⟩ := HH.out.swap HB0.out HP.out (i) (j) (by omega) (by omega) (by omega)
      try push_cast at hrun
      have HP5 := Lib.hid hp
      obtain ⟨c0', c1'⟩ := HC.out _ hp
      clear hp
      go_wp2
      go_roundw
      case rel => exact ⟨i + 1, j - 1, by go_num, by go_num, by omega, by omega, HP5⟩
      case measure => simp [intOf]; omega
    · have d1 : decide ((i : Int) < (j : Int)) = false := by simp; omega
      go_wp2
      first
        | go_end0
        | refine bodyPost_ret (results_none rfl _ _ _) rfl ?_
      exact ⟨rfl, HOff.out _ HP.out⟩
set_option maxRecDepth 100000 in
set_option maxHeartbeats 4000000 in
theorem insertP_any (H : Srt c t w0 g n f F sb lb lt l0) (a b : Nat) (w : World) (hw : PRow c t g l0 w0 w) (hab : a ≤ b) (hb : b ≤ n) :
    Calls Tryz.prog 154 #[.agg #[.func (.func F) #[] lb, .func (.func f) #[] sb], .int .i64 (a : Int), .int .i64 (b : Int)] w fun e w' => e = .returned (.tuple #[]) ∧ PRow c t g l0 w w' := by
  have HH := Lib.hid H
  have hgw : g < w.heap.size := hw.glt
  obtain ⟨B, hB⟩ : ∃ B, B = w.alloc (.cells #[.func (.func F) #[] lb, .func (.func f) #[] sb] 154) := ⟨_, rfl⟩
  have h0B : PRow c t g l0 w0 B := by rw [hB]; exact hw.alloc _
  have hBB : PRow c t g l0 B B := h0B.self
  have hBx : Blk B w.heap.size 154 #[.func (.func F) #[] lb, .func (.func f) #[] sb] := by rw [hB]; exact Blk.new _ _ _
  have HOff : Hid (∀ V, PRow c t g l0 B V → PRow c t g l0 w V) := fun V h => by rw [hB] at h; exact h.off
  have HB0 := Lib.hid h0B
  have HC : Hid (∀ V, PRow c t g l0 B V → V.cell? ⟨w.heap.size, 0, none⟩ = some (.func (.func F) #[] lb) ∧ V.cell? ⟨w.heap.size, 1, none⟩ = some (.func (.func f) #[] sb)) := fun V h => ⟨(h.box hBx (by omega)).cell 0, (h.box hBx (by omega)).cell 1⟩
  have eg := H.eg
  have hn6 := H.small
  have HW := Lib.hid hB
  have HBB := Lib.hid hBB
  clear hw hB h0B hBB hBx H
  go_enter Tryz.func154, Tryz.ntmps154
  go_upto_region 1 with fail
  simp only [← HW.out]
  go_wp2
  go_loopw [6] (fun iv wr => ∃ i : Nat, iv = .int .i64 (i : Int) ∧ i ≤ n + 1 ∧ Hid (PRow c t g l0 B wr)) (fun iv _ => n + 1 - (intOf iv).toNat)
  case atStart => exact ⟨a + 1, by go_num, by omega, HBB⟩
  case round =>
    obtain ⟨i, rfl, hi, HP⟩ := hrel
    by_cases h1 : i < b
    · have d1 : decide ((i : Int) < (b : Int)) = true := by simp; omega
      go_wp2
      go_loopw [7] (fun jv wr => ∃ j : Nat, jv = .int .i64 (j : Int) ∧ j ≤ i ∧ Hid (PRow c t g l0 B wr)) (fun jv _ => (intOf jv).toNat)
      case atStart => exact ⟨i, rfl, by omega, HP⟩
      case round =>
        obtain ⟨j, rfl, hj, HP⟩ := hrel
        obtain ⟨c0, c1⟩ := HC.out _ HP.out
        by_cases h2 : a < j
        · have d2 : decide ((a : Int) < (j : Int)) = true := by simp; omega
          go_wp2_with fail
          have hl := HH.out.less HB0.out HP.out (j) (j - 1) (by omega) (by omega)
          try push_cast at hl
          rw [show ((j - 1 : Nat) : Int) = (j : Int) - 1 from by omega] at hl
          refine hl.mono ?_
          clear hl
          rintro en w5 ⟨k5, rfl, hp⟩
          have HP5 := Lib.hid hp
          obtain ⟨c0, c1⟩ := HC.out _ hp
          clear hp
          cases k5 with
          | true =>
            obtain ⟨w6, hrun, hp⟩ := HH.out.swap HB0.out HP5.out (j) (j - 1) (by omega) (by omega) (by omega)
            try push_cast at hrun
            rw [show ((j - 1 : Nat) : Int) = (j : Int) - 1 from by omega] at hrun
            have HP6 := Lib.hid hp
            obtain ⟨c0', c1'⟩ := HC.out _ hp
            clear hp
            go_wp2
            go_roundw
            case rel => exact ⟨j - 1, by go_num, by omega, HP6⟩
            case measure => simp [intOf]; omega
          | false =>
            go_wp2
            go_roundw
            case rel => exact ⟨i + 1, by go_num, by omega, HP5⟩
            case measure => simp [intOf]; omega
        · have d2 : decide ((a : Int) < (j : Int)) = false := by simp; omega
          go_wp2
          go_roundw
          case rel => exact ⟨i + 1, by go_num, by omega, HP⟩
          case measure => simp [intOf]; omega
    · have d1 : decide ((i : Int) < (b : Int)) = false := by simp; omega
      go_wp2
      first
        | go_end0
        | refine bodyPost_ret (results_none rfl _ _ _) rfl ?_
      exact ⟨rfl, HOff.out _ HP.out⟩
end
end Go.Proofs.YthmecidpjlaonaaGreat
namespace Go.Proofs.YthmecidpjlaonaaGreat
open Go.RowKit

section
variable {α : Type} {c : CellsOf α} {t : TypeId} {w0 : World} {g n f F : Nat} {sb lb : Array Value} {lt : α → α → Bool} {l0 : List α}

/-- Block sp is one int; what lies in the list's block is as PRow says. -/
structure SpIn (c : CellsOf α) (t : TypeId) (g : Nat) (l0 : List α) (w0 : World) (sp : Nat) (V : World) : Prop where
  row : PRow c t g l0 w0 V
  new : w0.heap.size ≤ sp
  ne : sp ≠ g
  cell : ∃ z : Int, Blk V sp 3 #[.int .i64 z]
theorem SpIn.below {sp : Nat} {V W : World} (h : SpIn c t g l0 w0 sp V) (hb : Below V.heap.size V W) : SpIn c t g l0 w0 sp W := by
  obtain ⟨z, hz⟩ := h.cell
  exact ⟨h.row.below hb, h.new, h.ne, z, hz.below hb hz.lt⟩
theorem SpIn.alloc {sp : Nat} {V : World} (h : SpIn c t g l0 w0 sp V) (o : Obj) : SpIn c t g l0 w0 sp (V.alloc o) := by
  obtain ⟨z, hz⟩ := h.cell
  exact ⟨h.row.alloc o, h.new, h.ne, z, hz.alloc o⟩
theorem SpIn.store {sp : Nat} {V : World} (h : SpIn c t g l0 w0 sp V) (u : Int) : SpIn c t g l0 w0 sp (V.setCell ⟨sp, 0, none⟩ (.int .i64 u)) := by
  obtain ⟨z, hz⟩ := h.cell
  obtain ⟨l, h1, h2⟩ := h.row
  have hn := h.new
  exact ⟨⟨l, ⟨h1.blk.far (fun e => h.ne e.symm) _, ⟨h1.kept.os, h1.kept.tape, h1.kept.output, by simpa [World.setCell] using h1.kept.size, fun i hi hne => (Below.heap_setCell V ⟨sp, 0, none⟩ _ i (by show i ≠ sp; omega)).trans (h1.kept.block i hi hne)⟩⟩, h2⟩, h.new, h.ne, u, hz.put 0 _⟩
theorem below_grown {V W : World} {r : Option Nat} (hb : Below V.heap.size V W) : V.grownBy W r := ⟨hb.os, hb.tape, hb.output, hb.size, fun i hi _ => hb.block i hi⟩
theorem Srt.less0 {V : World} (H : Srt c t w0 g n f F sb lb lt l0) (hV : PRow c t g l0 w0 V) (i j : Nat) (hi : i < n) (hj : j < n) :
    Calls Tryz.prog F (#[.int .i64 (i : Int), .int .i64 (j : Int)] ++ lb) V fun e w' => ∃ k, e = .returned (.bool k) ∧ Below V.heap.size V w' := by
  obtain ⟨l, h1, h2⟩ := hV
  have hl : l.length = n := h2.length_eq.trans H.len
  obtain ⟨x, hx⟩ : ∃ x, l[i]? = some x := ⟨_, List.getElem?_eq_getElem (by omega)⟩
  obtain ⟨y, hy⟩ : ∃ y, l[j]? = some y := ⟨_, List.getElem?_eq_getElem (by omega)⟩
  exact (H.le V l i j x y h1 h2 hx hy).mono fun e w' h => ⟨_, h.1, h.2⟩
/-- What order2 and its callers come to: places between lo and hi. -/
def TwoPost (c : CellsOf α) (t : TypeId) (g : Nat) (l0 : List α) (w0 : World) (sp lo hi : Nat) (w : World) (e : Ending) (w' : World) : Prop :=
  ∃ x y : Nat, e = .returned (.tuple #[.int .i64 (x : Int), .int .i64 (y : Int)]) ∧ (lo ≤ x ∧ x < hi) ∧ (lo ≤ y ∧ y < hi) ∧ SpIn c t g l0 w0 sp w' ∧ w.grownBy w' (some sp)
def OnePost (c : CellsOf α) (t : TypeId) (g : Nat) (l0 : List α) (w0 : World) (sp lo hi : Nat) (w : World) (e : Ending) (w' : World) : Prop :=
  ∃ x : Nat, e = .returned (.int .i64 (x : Int)) ∧ (lo ≤ x ∧ x < hi) ∧ SpIn c t g l0 w0 sp w' ∧ w.grownBy w' (some sp)

set_option maxRecDepth 100000 in
set_option maxHeartbeats 4000000 in
theorem order2_any (H : Srt c t w0 g n f F sb lb lt l0) (sp lo hi a b : Nat) (w : World) (hw : SpIn c t g l0 w0 sp w) (ha : lo ≤ a ∧ a < hi) (hb : lo ≤ b ∧ b < hi) (hh : hi ≤ n) :
    Calls Tryz.prog 217 #[.agg #[.func (.func F) #[] lb, .func (.func f) #[] sb], .int .i64 (a : Int), .int .i64 (b : Int), (.pointer (some ⟨sp, 0, none⟩))] w (TwoPost c t g l0 w0 sp lo hi w) := by
  have HH := Lib.hid H
  have eg := H.eg
  have hn6 := H.small
  have HW := Lib.hid hw
  obtain ⟨z, hz⟩ := hw.cell
  obtain ⟨B, hB⟩ : ∃ B, B = w.alloc (.cells #[.func (.func F) #[] lb, .func (.func f) #[] sb] 154) := ⟨_, rfl⟩
  have hBx : Blk B w.heap.size 154 #[.func (.func F) #[] lb, .func (.func f) #[] sb] := by rw [hB]; exact Blk.new _ _ _
  have hSB : SpIn c t g l0 w0 sp B := by rw [hB]; exact hw.alloc _
  have hgB : w.grownBy B (some sp) := by rw [hB]; exact World.grownBy_alloc _ _ _
  have c0 : B.cell? ⟨w.heap.size, 0, none⟩ = some (.func (.func F) #[] lb) := hBx.cell 0
  have HB := Lib.hid hB
  have HS := Lib.hid hSB
  have HG := Lib.hid hgB
  clear hw hz hB hBx hSB hgB H
  go_enter Tryz.func217, Tryz.ntmps217
  go_upto_region 1 with fail
  simp only [← HB.out]
  go_wp2_with fail
  refine (HH.out.less0 HS.out.row b a (by omega) (by omega)).mono ?_
  rintro en w2 ⟨k, rfl, hb2⟩
  have hS2 := HS.out.below hb2
  obtain ⟨z2, hz2⟩ := hS2.cell
  have HS2 := Lib.hid hS2
  have HG2 : Hid (w.grownBy w2 (some sp)) := HG.out.trans (below_grown hb2)
  have y0 : w2.cell? ⟨sp, 0, none⟩ = some (.int .i64 z2) := hz2.cell 0
  have y1 : w2.frozen? ⟨sp, 0, none⟩ = false := hz2.frozen 0
  clear hb2 hS2 hz2 c0
  cases k with
  | false =>
    go_wp2
    go_ret2
    exact ⟨a, b, rfl, ha, hb, HS2.out, HG2.out⟩
  | true =>
    go_wp2
    go_ret2
    exact ⟨b, a, rfl, hb, ha, HS2.out.store _, one_put HG2.out rfl _⟩
set_option maxRecDepth 100000 in
set_option maxHeartbeats 4000000 in
theorem median_any (H : Srt c t w0 g n f F sb lb lt l0) (sp lo hi a b d : Nat) (w : World) (hw : SpIn c t g l0 w0 sp w) (ha : lo ≤ a ∧ a < hi) (hb : lo ≤ b ∧ b < hi) (hd : lo ≤ d ∧ d < hi) (hh : hi ≤ n) :
    Calls Tryz.prog 211 #[.agg #[.func (.func F) #[] lb, .func (.func f) #[] sb], .int .i64 (a : Int), .int .i64 (b : Int), .int .i64 (d : Int), (.pointer (some ⟨sp, 0, none⟩))] w (OnePost c t g l0 w0 sp lo hi w) := by
  have HH := Lib.hid H
  have eg := H.eg
  have hn6 := H.small
  obtain ⟨B, hB⟩ : ∃ B, B = w.alloc (.cells #[.func (.func F) #[] lb, .func (.func f) #[] sb] 154) := ⟨_, rfl⟩
  have hBx : Blk B w.heap.size 154 #[.func (.func F) #[] lb, .func (.func f) #[] sb] := by rw [hB]; exact Blk.new _ _ _
  have hSB : SpIn c t g l0 w0 sp B := by rw [hB]; exact hw.alloc _
  have hgB : w.grownBy B (some sp) := by rw [hB]; exact World.grownBy_alloc _ _ _
  have hspw : sp < w.heap.size := by obtain ⟨z, hz⟩ := hw.cell; exact hz.lt
  have HC : Hid (∀ V, B.grownBy V (some sp) → V.cell? ⟨w.heap.size, 0, none⟩ = some (.func (.func F) #[] lb) ∧ V.cell? ⟨w.heap.size, 1, none⟩ = some (.func (.func f) #[] sb)) := fun V h => ⟨(hBx.kept h (by intro e; injection e with e; omega)).cell 0, (hBx.kept h (by intro e; injection e with e; omega)).cell 1⟩
  obtain ⟨c0, c1⟩ := HC.out B (one_refl B sp)
  have HB := Lib.hid hB
  have HS := Lib.hid hSB
  have HG := Lib.hid hgB
  have HR : Hid (B.grownBy B (some sp)) := one_refl B sp
  clear hw hB hBx hSB hgB H
  go_enter Tryz.func211, Tryz.ntmps211
  go_upto_region 1 with fail
  simp only [← HB.out]
  go_upto_region 2 with (go_at_call 217; refine (order2_any HH.out sp lo hi a b _ HS.out ha hb hh).mono ?_; rintro en w2 ⟨x, y, rfl, hx, hy, hs, hg⟩; have HS2 := Lib.hid hs; have HR2 := Lib.hid (HR.out.trans hg); obtain ⟨c0, c1⟩ := HC.out _ (HR.out.trans hg); clear hs hg)
  go_upto_region 3 with (go_at_call 217; refine (order2_any HH.out sp lo hi y d _ HS2.out hy hd hh).mono ?_; rintro en w3 ⟨p, q, rfl, hp, hq, hs, hg⟩; have HS3 := Lib.hid hs; have HR3 := Lib.hid (HR2.out.trans hg); obtain ⟨c0, c1⟩ := HC.out _ (HR2.out.trans hg); clear hs hg)
  go_wp2_with (go_at_call 217; refine (order2_any HH.out sp lo hi x p _ HS3.out hx hp hh).mono ?_; rintro en w4 ⟨r, s, rfl, hr, hsb, hs, hg⟩; have HS4 := Lib.hid hs; have HR4 := Lib.hid (HR3.out.trans hg); obtain ⟨c0, c1⟩ := HC.out _ (HR3.out.trans hg); clear hs hg)
  go_ret
  exact ⟨s, rfl, hsb, HS4.out, HG.out.trans HR4.out⟩
set_option maxRecDepth 100000 in
set_option maxHeartbeats 4000000 in
theorem medAdj_any (H : Srt c t w0 g n f F sb lb lt l0) (sp lo hi a : Nat) (w : World) (hw : SpIn c t g l0 w0 sp w) (ha : lo + 1 ≤ a ∧ a + 1 < hi) (hh : hi ≤ n) :
    Calls Tryz.prog 210 #[.agg #[.func (.func F) #[] lb, .func (.func f) #[] sb], .int .i64 (a : Int), (.pointer (some ⟨sp, 0, none⟩))] w (OnePost c t g l0 w0 sp lo hi w) := by
  have HM : Hid (∀ V, SpIn c t g l0 w0 sp V → Calls Tryz.prog 211 #[.agg #[.func (.func F) #[] lb, .func (.func f) #[] sb], .int .i64 ((a : Int) - 1), .int .i64 (a : Int), .int .i64 ((a : Int) + 1), (.pointer (some ⟨sp, 0, none⟩))] V (OnePost c t g l0 w0 sp lo hi V)) := fun V hV => by
    have h := median_any H sp lo hi (a - 1) a (a + 1) V hV (by omega) (by omega) (by omega) hh
    rwa [show ((a - 1 : Nat) : Int) = (a : Int) - 1 from by omega, show ((a + 1 : Nat) : Int) = (a : Int) + 1 from by omega] at h
  have HH := Lib.hid H
  have eg := H.eg
  have hn6 := H.small
  obtain ⟨B, hB⟩ : ∃ B, B = w.alloc (.cells #[.func (.func F) #[] lb, .func (.func f) #[] sb] 154) := ⟨_, rfl⟩
  have hBx : Blk B w.heap.size 154 #[.func (.func F) #[] lb, .func (.func f) #[] sb] := by rw [hB]; exact Blk.new _ _ _
  have hSB : SpIn c t g l0 w0 sp B := by rw [hB]; exact hw.alloc _
  have hgB : w.grownBy B (some sp) := by rw [hB]; exact World.grownBy_alloc _ _ _
  have hspw : sp < w.heap.size := by obtain ⟨z, hz⟩ := hw.cell; exact hz.lt
  have HC : Hid (∀ V, B.grownBy V (some sp) → V.cell? ⟨w.heap.size, 0, none⟩ = some (.func (.func F) #[] lb) ∧ V.cell? ⟨w.heap.size, 1, none⟩ = some (.func (.func f) #[] sb)) := fun V h => ⟨(hBx.kept h (by intro e; injection e with e; omega)).cell 0, (hBx.kept h (by intro e; injection e with e; omega)).cell 1⟩
  obtain ⟨c0, c1⟩ := HC.out B (one_refl B sp)
  have HB := Lib.hid hB
  have HS := Lib.hid hSB
  have HG := Lib.hid hgB
  have HR : Hid (B.grownBy B (some sp)) := one_refl B sp
  clear hw hB hBx hSB hgB H
  go_enter Tryz.func210, Tryz.ntmps210
  go_upto_region 1 with fail
  simp only [← HB.out]
  go_wp2_with (go_at_call 211; refine (HM.out _ HS.out).mono ?_; rintro en w2 ⟨x, rfl, hx, hs, hg⟩; have HS2 := Lib.hid hs; have HR2 := Lib.hid hg; clear hs hg)
  go_ret
  exact ⟨x, rfl, hx, HS2.out, HG.out.trans HR2.out⟩
theorem grown_far {A B V : World} {sp r : Nat} (hb : Below A.heap.size A B) (hg : B.grownBy V (some sp)) (hs : A.heap.size ≤ sp) : A.grownBy V (some r) :=
  ⟨hg.os.trans hb.os, hg.tape.trans hb.tape, hg.output.trans hb.output, Nat.le_trans hb.size hg.size, fun i hi _ => (hg.block i (Nat.lt_of_lt_of_le hi hb.size) (by intro e; injection e with e; omega)).trans (hb.block i hi)⟩
/-- What choosePivot comes to. -/
def PvPost (c : CellsOf α) (t : TypeId) (g : Nat) (l0 : List α) (a b : Nat) (w : World) (e : Ending) (w' : World) : Prop :=
  ∃ (x : Nat) (h : Int), e = .returned (.tuple #[.int .i64 (x : Int), .int .i64 h]) ∧ (a ≤ x ∧ x < b) ∧ PRow c t g l0 w w'
set_option maxRecDepth 100000 in
set_option maxHeartbeats 4000000 in
theorem pivot_any (H : Srt c t w0 g n f F sb lb lt l0) (a b : Nat) (w : World) (hw : PRow c t g l0 w0 w) (hgw : g < w.heap.size) (hab : a + 12 < b) (hb : b ≤ n) :
    Calls Tryz.prog 182 #[.agg #[.func (.func F) #[] lb, .func (.func f) #[] sb], .int .i64 (a : Int), .int .i64 (b : Int)] w (PvPost c t g l0 a b w) := by
  obtain ⟨L, hbL⟩ : ∃ L, b = a + L := ⟨b - a, by omega⟩
  have hL : ((b : Int) - (a : Int)) = (L : Int) := by omega
  obtain ⟨q, hq⟩ : ∃ q, q = L / 4 := ⟨_, rfl⟩
  have hq1 : 4 * q ≤ L ∧ L < 4 * q + 4 := by omega
  have hq2 : (L : Int) / 4 = (q : Int) := by omega
  have hL12 : 12 < L := by omega
  have dL8 : decide (8 ≤ (L : Int)) = true := by simp; omega
  have hbb : a + L ≤ n := by omega
  have HbL := Lib.hid hbL
  clear hq hbL
  have HH := Lib.hid H
  have eg := H.eg
  have hn6 := H.small
  obtain ⟨B, hB⟩ : ∃ B, B = w.alloc (.cells #[.func (.func F) #[] lb, .func (.func f) #[] sb] 154) := ⟨_, rfl⟩
  obtain ⟨sp, hsp⟩ : ∃ sp, sp = B.heap.size := ⟨_, rfl⟩
  obtain ⟨B2, hB2⟩ : ∃ B2, B2 = B.alloc (.cells #[.int .i64 0] 3) := ⟨_, rfl⟩
  have hsw : sp = w.heap.size + 1 := by rw [hsp, hB]; simp
  have hBx0 : Blk B w.heap.size 154 #[.func (.func F) #[] lb, .func (.func f) #[] sb] := by rw [hB]; exact Blk.new _ _ _
  have hBx : Blk B2 w.heap.size 154 #[.func (.func F) #[] lb, .func (.func f) #[] sb] := by rw [hB2]; exact hBx0.alloc _
  have hbw : Below w.heap.size w B2 := by rw [hB2, hB]; exact ((Below.refl _ _).alloc (Nat.le_refl _) _).alloc (by simp) _
  have hS2 : SpIn c t g l0 w0 sp B2 := ⟨by rw [hB2, hB]; exact (hw.alloc _).alloc _, by have := hw.size; omega, by omega, 0, by rw [hB2, hsp]; exact Blk.new _ _ _⟩
  have HC : Hid (∀ V, B2.grownBy V (some sp) → V.cell? ⟨w.heap.size, 0, none⟩ = some (.func (.func F) #[] lb) ∧ V.cell? ⟨w.heap.size, 1, none⟩ = some (.func (.func f) #[] sb)) := fun V h => ⟨(hBx.kept h (by intro e; injection e with e; omega)).cell 0, (hBx.kept h (by intro e; injection e with e; omega)).cell 1⟩
  have HSpw : Hid (w.heap.size ≤ sp) := by unfold Hid; omega
  have HB := Lib.hid hB
  have HB2 := Lib.hid hB2
  have HSp := Lib.hid hsp
  have HS := Lib.hid hS2
  have HBw := Lib.hid hbw
  have HR : Hid (B2.grownBy B2 (some sp)) := one_refl B2 sp
  obtain ⟨c0, c1⟩ := HC.out B2 (one_refl B2 sp)
  clear hw hB hBx hBx0 hB2 hsp hsw hS2 hbw H
  go_enter Tryz.func182, Tryz.ntmps182
  go_upto_region 1 with fail
  simp only [← HB.out]
  go_upto_region 3 with fail
  simp only [← HB2.out, ← HSp.out]
  by_cases h50 : 50 ≤ L
  · have d50 : decide (50 ≤ (L : Int)) = true := by simp; omega
    go_upto_region 9 with (go_at_call 210; have hl := medAdj_any HH.out sp a (a + L) (a + q) _ HS.out (by omega) hbb; push_cast at hl; refine hl.mono ?_; clear hl; rintro en w5 ⟨x1, rfl, hx1, hs, hg⟩; have HS5 := Lib.hid hs; have HR5 := Lib.hid (HR.out.trans hg); obtain ⟨c0, c1⟩ := HC.out _ (HR.out.trans hg); clear hs hg)
    go_upto_region 10 with (go_at_call 210; have hl := medAdj_any HH.out sp a (a + L) (a + q * 2) _ HS5.out (by omega) hbb; push_cast at hl; refine hl.mono ?_; clear hl; rintro en w6 ⟨x2, rfl, hx2, hs, hg⟩; have HS6 := Lib.hid hs; have HR6 := Lib.hid (HR5.out.trans hg); obtain ⟨c0, c1⟩ := HC.out _ (HR5.out.trans hg); clear hs hg)
    go_upto_region 11 with (go_at_call 210; have hl := medAdj_any HH.out sp a (a + L) (a + q * 3) _ HS6.out (by omega) hbb; push_cast at hl; refine hl.mono ?_; clear hl; rintro en w7 ⟨x3, rfl, hx3, hs, hg⟩; have HS7 := Lib.hid hs; have HR7 := Lib.hid (HR6.out.trans hg); obtain ⟨c0, c1⟩ := HC.out _ (HR6.out.trans hg); clear hs hg)
    go_upto_region 12 with (go_at_call 211; have hl := median_any HH.out sp a (a + L) x1 x2 x3 _ HS7.out hx1 hx2 hx3 hbb; push_cast at hl; refine hl.mono ?_; clear hl; rintro en w9 ⟨x, rfl, hx, hs, hg⟩; have HS9 := Lib.hid hs; have HR9 := Lib.hid (HR7.out.trans hg); obtain ⟨c0, c1⟩ := HC.out _ (HR7.out.trans hg); clear hs hg)
    · rw [← HbL.out] at hx
      obtain ⟨z, hz⟩ := HS9.out.cell
      have y0 := hz.cell 0
      clear hz
      simp at y0
      have HPo : Hid (PRow c t g l0 w w9) := by
        obtain ⟨l, h1, h2⟩ := HS9.out.row
        exact ⟨l, ⟨h1.blk, grown_far HBw.out HR9.out HSpw.out⟩, h2⟩
      by_cases z0 : z = 0
      · have e0 : (z == 0) = true := by rw [z0]; rfl
        go_wp2
        go_ret2
        exact ⟨x, 1, rfl, hx, HPo.out⟩
      · have e0 : (z == 0) = false := by simp [z0]
        by_cases z1 : z = 12
        · have e1 : (z == 12) = true := by rw [z1]; rfl
          go_wp2
          go_ret2
          exact ⟨x, 2, rfl, hx, HPo.out⟩
        · have e1 : (z == 12) = false := by simp [z1]
          go_wp2
          go_ret2
          exact ⟨x, 0, rfl, hx, HPo.out⟩
  · have d50 : decide (50 ≤ (L : Int)) = false := by simp; omega
    go_upto_region 12 with (go_at_call 211; have hl := median_any HH.out sp a (a + L) (a + q) (a + q * 2) (a + q * 3) _ HS.out (by omega) (by omega) (by omega) hbb; push_cast at hl; refine hl.mono ?_; clear hl; rintro en w9 ⟨x, rfl, hx, hs, hg⟩; have HS9 := Lib.hid hs; have HR9 := Lib.hid (HR.out.trans hg); obtain ⟨c0, c1⟩ := HC.out _ (HR.out.trans hg); clear hs hg)
    · rw [← HbL.out] at hx
      obtain ⟨z, hz⟩ := HS9.out.cell
      have y0 := hz.cell 0
      clear hz
      simp at y0
      have HPo : Hid (PRow c t g l0 w w9) := by
        obtain ⟨l, h1, h2⟩ := HS9.out.row
        exact ⟨l, ⟨h1.blk, grown_far HBw.out HR9.out HSpw.out⟩, h2⟩
      by_cases z0 : z = 0
      · have e0 : (z == 0) = true := by rw [z0]; rfl
        go_wp2
        go_ret2
        exact ⟨x, 1, rfl, hx, HPo.out⟩
      · have e0 : (z == 0) = false := by simp [z0]
        by_cases z1 : z = 12
        · have e1 : (z == 12) = true := by rw [z1]; rfl
          go_wp2
          go_ret2
          exact ⟨x, 2, rfl, hx, HPo.out⟩
        · have e1 : (z == 12) = false := by simp [z1]
          go_wp2
          go_ret2
          exact ⟨x, 0, rfl, hx, HPo.out⟩
end
end Go.Proofs.YthmecidpjlaonaaGreat
