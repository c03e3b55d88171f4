/-
  append of bytes onto a row of the call's own, up to a little beyond half of what Go's own test lets through: no condition but that.
  The law CheckerChecks returns true and changes nothing that was there. Condition: its arguments lie in memory below the call.
-/
import Derived.Test.YthmecidpjlaonaaMem2
import Derived.Test.YthmecidpjlaonaaGFind
namespace Go.Proofs.Ythmecidpjlaonaa
open Go.RowKit

theorem nextcap48 {need old : Nat} (h : old < need) (hb : need ≤ 140737489000000) : Builtin.nextslicecap need old ≤ 281474976710656 := by
  unfold Builtin.nextslicecap
  split
  · omega
  · split
    · omega
    · rw [growBy_four]
      repeat' split
      all_goals omega

theorem run_app48 {P : Program} (w : World) (base : Nat) (t ty e : TypeId) (i : TypeInfo) (z : Value) (ht : P.underlying t = some (.slice e)) (hi : P.info? e = some i) (hz : i.zero = some z)
    (hsize : i.size = 1) (hby : i.bytes = 1) (hzs : z.cells.size = 1)
    (v : Value) (n : Nat) (xs : List Value) (hown : w.ownsRow base e 1 v n xs)
    (B : Nat) (A : Option Addr) (m c : Nat) (news : List Value) (hl : news.length = m) (hr : Rd w B A news) (h1 : ∀ u ∈ news, u.oneCell' = true)
    (hb : n + m ≤ 140737489000000) (hbase : base ≤ w.heap.size) :
    ∃ v' w', (Builtin.append_ #[t, t] ty #[v, .slice A m c]).run P w = .ok v' w' ∧ w'.ownsRow base e 1 v' (n + m) (xs ++ news) ∧ w.grownBy w' v.ownBlock ∧
      (v'.ownBlock = v.ownBlock ∨ v'.ownBlock = some w.heap.size) := by
  by_cases hsmall : n + m ≤ 140737488355328
  · exact run_app (P := P) w base t ty e i z 1 1 ht hi hz hsize hby hzs (by omega) v n xs hown B A m c news (by omega) hr h1 (by omega) (by unfold maxLen; omega) hbase
  rcases A with _ | ad
  · have hn : news = [] := by
      rcases hr with h | ⟨b, o, h, _⟩
      · exact h
      · cases h
    subst hn
    simp at hl
    subst hl
    refine ⟨v, w, ?_, by simpa using hown, ⟨rfl, rfl, rfl, Nat.le_refl _, fun _ _ _ => rfl⟩, .inl rfl⟩
    rcases hown.2 with ⟨rfl, rfl⟩ | ⟨g, cap, cur, rfl, _, _, hnc, _⟩
    · simp [Builtin.append_, run_underlying ht, sizeOf, typeInfo, hi, Builtin.lenOf, Builtin.firstCells]
    · simp [Builtin.append_, run_underlying ht, sizeOf, typeInfo, hi, Builtin.lenOf, Builtin.firstCells, hnc, storeCells]
  have hcells : ∀ j u, news[j]? = some u → w.cell? (ad.add j) = some u := by
    intro j u hu
    rcases hr with h | ⟨b, o, h, _, hc⟩
    · subst h; simp at hu
    · injection h with h; subst h; rw [Addr.add_mid]; exact hc j u hu
  have hxl : xs.length = n := by simpa using hown.1
  have hlen : (xs ++ news).length = (n + m) * 1 := by rw [List.length_append, hxl, hl, Nat.mul_one]
  have grown : ∀ (old : Nat), old < n + m → ∀ (row : Option Nat),
      (w.drew.alloc (.cells (xs.toArray ++ news.toArray ++ Builtin.zeroCells z.cells (grownCap w (n + m) old e - (n + m))) e)).ownsRow base e 1
        (.slice (some ⟨w.heap.size, 0, none⟩) (n + m) (grownCap w (n + m) old e)) (n + m) (xs ++ news) ∧
      w.grownBy (w.drew.alloc (.cells (xs.toArray ++ news.toArray ++ Builtin.zeroCells z.cells (grownCap w (n + m) old e - (n + m))) e)) row := by
    intro old ho row
    have hge := grownCap_ge w (n + m) old e
    have hcm : grownCap w (n + m) old e ≤ maxLen := grownCap_le_maxLen w (n + m) old e (by unfold maxLen; omega)
    refine ⟨⟨hlen, .inr ⟨w.heap.size, _, _, rfl, hbase, heap_alloc_new w.drew _, hge, hcm, ?_, ?_⟩⟩, ⟨rfl, rfl, rfl, by simp, fun k hk _ => Below.heap_alloc w.drew _ k hk⟩⟩
    · simp only [Array.size_append, List.size_toArray, size_zeroCells, hzs, hxl, hl]
      omega
    · simp only [Array.toList_append, List.append_assoc]
      rw [← List.append_assoc, ← hlen]
      exact List.take_left
  rcases hown.2 with ⟨rfl, rfl⟩ | ⟨g, cap, cur, rfl, hbg, hg, hnc, hcm, hcs, htake⟩
  · have hx : xs = [] := List.eq_nil_of_length_eq_zero hxl
    subst hx
    obtain ⟨g1, g2⟩ := grown 0 (by omega) (Value.ownBlock (.slice none 0 0))
    refine ⟨_, _, ?_, g1, g2, .inr rfl⟩
    have := run_append_nil (P := P) w t ty e i z ht hi hz ad m c news (by rw [hsize]; omega) hcells (by omega) (by omega) (by rw [hby]; omega)
    simpa using this
  · by_cases hroom : n + m ≤ cap
    · have hfit : n * i.size + news.length ≤ cur.size := by rw [hl, hcs, hsize]; omega
      have hr2 := run_append_room (P := P) w t ty e i ht hi g n cap cur hg ad m c news (by rw [hsize]; omega) hcells h1 hroom hfit
      refine ⟨_, _, hr2, ⟨hlen, .inr ⟨g, cap, _, rfl, hbg, setRow_heap w g cur _ e _ hg, hroom, hcm, ?_, ?_⟩⟩, ⟨rfl, rfl, rfl, by simp, fun k _ hk => setRow_other w g k _ (fun e => hk (by simp [Value.ownBlock, e]))⟩, .inl rfl⟩
      · simp only [List.size_toArray, List.length_append, List.length_take, List.length_drop, Array.length_toList, hsize]
        omega
      · have ht' : cur.toList.take (n * i.size) = xs := by rw [hsize]; exact htake
        rw [ht', ← hlen]
        exact List.take_left
    · obtain ⟨g1, g2⟩ := grown cap (by omega) (Value.ownBlock (.slice (some ⟨g, 0, none⟩) n cap))
      refine ⟨_, _, run_append_grow (P := P) w t ty e i z ht hi hz ⟨g, 0, none⟩ n cap xs (by rw [hsize]; omega) (hown.cells (g := g) rfl) ad m c news (by rw [hsize]; omega) hcells (by omega) (by omega) (by rw [hby, Nat.mul_one]; exact nextcap48 (by omega) hb), g1, g2, .inr rfl⟩

theorem wpList_app48 {P : Program} {w : World} {ops : Array Oper} {rest : List Oper} {o : Oper} {a : Act} {Q : Exit → Act → World → Prop} (hgd : o.guard = none) (s x : Operand) (t : TypeId)
    (ho : o.op = .call { callee := .builtin .append, args := #[s, x], argTypes := #[t, t] })
    (base : Nat) (e : TypeId) (z : Value) (ht : P.underlying t = some (.slice e)) (hi : (P.info? e).map (fun i => (i.zero, i.size, i.bytes)) = some (some z, 1, 1)) (hzs : z.cells.size = 1)
    (v : Value) (n : Nat) (xs : List Value) (hs : a.eval s = v) (hown : w.ownsRow base e 1 v n xs)
    (B : Nat) (A : Option Addr) (m c : Nat) (news : List Value) (hx : a.eval x = .slice A m c) (hl : news.length = m) (hr : Rd w B A news) (h1 : ∀ u ∈ news, u.oneCell' = true)
    (hb : n + m ≤ 140737489000000) (hbase : base ≤ w.heap.size)
    (h : ∀ v' w', w'.ownsRow base e 1 v' (n + m) (xs ++ news) → w.grownBy w' v.ownBlock → (v'.ownBlock = v.ownBlock ∨ v'.ownBlock = some w.heap.size) → wpList P ops Q rest (a.put o.dst v') w') :
    wpList P ops Q (o :: rest) a w := by
  obtain ⟨i, hi', hz, hsize, hby⟩ := info_parts hi
  refine wpList_plain hgd fun K hK => ?_
  obtain ⟨v', w', hr, h2, h3, h5⟩ := run_app48 (P := P) w base t o.type e i z ht hi' hz hsize hby hzs v n xs hown B A m c news hl hr h1 hb hbase
  unfold Oper.wp execOp
  simp only [ho, resolve, invoke, builtin, Sem.run_bind, Sem.run_pure, Result.andThen_ok, List.map_toArray, List.map_cons, List.map_nil, hs, hx, hr]
  exact hK _ _ (h v' w' h2 h3 h5)
end Go.Proofs.Ythmecidpjlaonaa
namespace Go.Proofs.Ythmecidpjlaonaa
open Go.RowKit

theorem umod_nat (a : Int) (n : Nat) (hn : 0 < n) : ∃ d : Nat, (IntKind.u64.wrap a).tmod (n : Int) = (d : Int) ∧ d < n := by
  have h0 : 0 ≤ IntKind.u64.wrap a := by rw [IntKind.wrap_u64]; omega
  obtain ⟨k, hk⟩ := Int.eq_ofNat_of_zero_le h0
  exact ⟨k % n, by rw [hk]; rfl, Nat.mod_lt _ hn⟩
theorem own_byte {w : World} {base e g n cap d : Nat} {bs : List UInt8} {x : UInt8} (h : w.ownsRow base e 1 (.slice (some ⟨g, 0, none⟩) n cap) n (bs.map B)) (hd : d < n) (hx : bs[d]? = some x) : w.cell? ⟨g, d, none⟩ = some (B x) := by
  have := h.cellAt d (by omega)
  rw [this, List.getElem?_map, hx]
  rfl
theorem get_some {α : Type} {l : List α} {d : Nat} (h : d < l.length) : ∃ x, l[d]? = some x := ⟨_, List.getElem?_eq_getElem h⟩
theorem own_take {w : World} {base e g n cap q : Nat} {xs : List Value} (h : w.ownsRow base e 1 (.slice (some ⟨g, 0, none⟩) n cap) n xs) (hq : q ≤ n) : w.ownsRow base e 1 (.slice (some ⟨g, 0, none⟩) q cap) q (xs.take q) := by
  have hl := h.1
  refine ⟨by rw [List.length_take]; omega, ?_⟩
  rcases h.2 with ⟨hv, _⟩ | ⟨g', cap', cur, hv, h1, h2, h3, h4, h5, h6⟩
  · cases hv
  · injection hv with a1 a2 a3
    injection a1 with a1
    injection a1 with a1
    subst a1; subst a3
    refine .inr ⟨g, cap, cur, rfl, h1, h2, by omega, h4, h5, ?_⟩
    rw [← h6, List.take_take]
    congr 1
    omega
theorem own_ge {w : World} {base e size g n cap : Nat} {xs : List Value} (h : w.ownsRow base e size (.slice (some ⟨g, 0, none⟩) n cap) n xs) : base ≤ g := by
  rcases h.2 with ⟨hv, _⟩ | ⟨g', cap', cur, hv, h1, _⟩
  · cases hv
  · injection hv with a1
    injection a1 with a1
    injection a1 with a1
    subst a1
    exact h1
theorem own_stored {w : World} {base e g n cap : Nat} {xs : List Value} (h : w.ownsRow base e 1 (.slice (some ⟨g, 0, none⟩) n cap) n xs) (j : Nat) {u : Value} : (w.setCell ⟨g, j, none⟩ u).ownsRow base e 1 (.slice (some ⟨g, 0, none⟩) n cap) n (xs.set j u) := (h.stored j u).1
theorem umod_three (a : Int) : ∃ r : Nat, (IntKind.u64.wrap a).tmod 3 = (r : Int) ∧ r < 3 := by
  obtain ⟨r, h, hr⟩ := umod_nat a 3 (by omega)
  exact ⟨r, h, hr⟩
theorem u8_xor (x y : UInt8) : bits .xor .u8 (x.toNat : Int) (y.toNat : Int) = ((x ^^^ y).toNat : Int) := by
  show IntKind.u8.wrap ((BitVec.ofInt 8 (x.toNat : Int) ^^^ BitVec.ofInt 8 (y.toNat : Int)).toNat : Int) = _
  have e : ∀ z : UInt8, BitVec.ofInt 8 (z.toNat : Int) = z.toBitVec := fun z => by rw [BitVec.ofInt_natCast]; simp [← UInt8.toNat_toBitVec]
  rw [e, e, ← UInt8.toBitVec_xor, UInt8.toNat_toBitVec]
  have := (x ^^^ y).toNat_lt
  generalize (x ^^^ y).toNat = k at *
  simp [IntKind.wrap, IntKind.bits, IntKind.signed]
  omega

set_option maxRecDepth 100000 in
set_option maxHeartbeats 2000000 in
theorem checks_any (K A R M : Option Addr) (nk ck n c nr cr nm cm : Nat) (pos less : Int) (by_ : UInt8) (keys : List Nm) (l : List Sg) (raw more : List UInt8) (w : World) (hnk : keys.length = nk) (hn : l.length = n) (hnr : raw.length = nr) (hnm : more.length = nm)
    (hK : Rd w w.heap.size K (keys.flatMap nmc)) (hA : Rd w w.heap.size A (l.flatMap sgc)) (hok : SgsOk w w.heap.size l) (hR : Rd w w.heap.size R (raw.map B)) (hM : Rd w w.heap.size M (more.map B))
    (hc : n ≤ c) (hcr : nr ≤ cr) (hmr : cr ≤ maxLen) (hmore : nm ≤ 140737488351232) :
    Calls Try.prog 4 #[.slice K nk ck, .slice A n c, .slice R nr cr, .int .i64 pos, B by_, .int .i64 less, .slice M nm cm] w fun e w' => e = .returned (.bool true) ∧ Below w.heap.size w w' := by
  have HC1 : Hid (∀ W, Below w.heap.size w W → Calls Try.prog 22 #[.slice K nk ck, .slice R nr cr] W (CheckPost W (checkF keys raw))) := fun W hW => by
    have := check_any K R ck cr keys raw W ((hK.below hW).more hW.size) ((hR.below hW).more hW.size) (by omega) hmr
    rwa [hnk, hnr] at this
  have HC2 : Hid (∀ W, Below w.heap.size w W → Calls Try.prog 23 #[.slice K nk ck, .slice R nr cr] W (CheckPost W (checkF keys raw))) := fun W hW => by
    have := rcheck_any K R ck cr keys raw W ((hK.below hW).more hW.size) ((hR.below hW).more hW.size) (by omega) hmr
    rwa [hnk, hnr] at this
  obtain ⟨⟨m1, e1⟩, h1⟩ : ∃ r, r = checkF keys raw := ⟨_, rfl⟩
  rw [← h1] at HC1 HC2
  have HCut : Hid (∀ W, Calls Try.prog 25 #[.slice A n c] W fun e w' => e = .returned (.slice A (min n 60) c) ∧ w' = W) := fun W => cut10_any A n c W (fun h e => by
    rcases hA with h0 | ⟨b, o, h0, _⟩
    · have := flat_length sgc 23 l (sgc_len l)
      rw [h0, hn] at this
      simp at this; omega
    · rw [e] at h0; cases h0) hc
  have HF : Hid (∀ W, Below w.heap.size w W → Calls Try.prog 24 #[.slice K nk ck, .slice A (min n 60) c] W (FindsPost W (canF ((vfd keys (l.take 60)).map Sg.vs)))) := fun W hW =>
    rfind_any K A nk ck (min n 60) c keys (l.take 60) W hnk (by rw [List.length_take]; omega) ((hK.below hW).more hW.size) (((hA.below hW).more hW.size).sgTake 60) (((hok.sub (fun s hs => List.mem_of_mem_take hs)).below hW).more hW.size) (by omega)
  have HK := Lib.hid hK
  have HM := Lib.hid hM
  have HNM := Lib.hid hnm
  have HNK := Lib.hid hnk
  clear h1 hnk hn hnr hnm hK hA hok hR hM
  go_enter Try.func4, Try.ntmps4
  go_wp2_with ((first
    | (go_at_call 22; refine (HC1.out _ (Below.refl _ _)).mono ?_; rintro en w1 ⟨rfl, hb1⟩)
    | (go_at_call 23; refine (HC2.out _ hb1).mono ?_; rintro en w2 ⟨rfl, hb2⟩; have hbw2 := hb1.trans (hb2.mono hb1.size))
    | (go_at_call 25; refine (HCut.out _).mono ?_; rintro en wq ⟨rfl, rfl⟩)
    | (go_at_call 24; refine (HF.out _ hbw2).mono ?_; rintro en w3 ⟨L, v3, rfl, hb3, hown3, hk3, he3⟩; have hbw3 := hbw2.trans (hb3.mono hbw2.size); have HOwn3 := Lib.hid hown3; have HK3 := Lib.hid hk3; clear hown3 hk3 he3)))
  obtain ⟨A3, c3, hv3⟩ := own_form HOwn3.out
  subst hv3
  have hfl : (findF L 10).length ≤ 10 := findF_len L 10
  have HB3 : Hid (Calls Try.prog 20 #[.slice A3 (findF L 10).length c3] w3 (BuildPost w3 (findF L 10))) := rbuild_any A3 c3 (findF L 10) w3 (Rd.of_own HOwn3.out) (fun e he => ⟨(HK3.out _ (findF_mem he).1).1, (HK3.out _ (findF_mem he).2).1⟩) (by omega)
  have HB4 : Hid (Calls Try.prog 20 #[.slice A3 (findF L 10).length c3] w3 fun e w' => (∃ (N : Nat) (bs : List UInt8) (g cap : Nat), e = .returned (.tuple #[.slice (some ⟨g, 0, none⟩) N cap, .bool true]) ∧ 787 ≤ N ∧ N ≤ 7861 ∧ bs.length = N ∧ w'.ownsRow w3.heap.size 5 1 (.slice (some ⟨g, 0, none⟩) N cap) N (bs.map B) ∧ Below w3.heap.size w3 w') ∨ (e = .returned (.tuple #[.slice none 0 0, .bool false]) ∧ Below w3.heap.size w3 w')) := by
    refine HB3.out.mono ?_
    rintro en w4 (⟨hbk, A4, c4, rfl, hown4, hb4⟩ | ⟨_, rfl, hb4⟩)
    · have hpos : 1 ≤ (findF L 10).length := by
        rcases Nat.eq_zero_or_pos (findF L 10).length with h0 | h0
        · exact absurd (List.eq_nil_of_length_eq_zero h0) hbk.1
        · exact h0
      have hl : (buildB (findF L 10) (findF L 10).length).length = 1 + 786 * (findF L 10).length := by have := hown4.1; simpa using this
      rcases hown4.2 with ⟨_, h0⟩ | ⟨g, cap, cur, hv, _⟩
      · omega
      · injection hv with a1 a2 a3
        subst a1; subst a3
        exact .inl ⟨_, _, g, c4, rfl, by omega, by omega, hl, hown4, hb4⟩
    · exact .inr ⟨rfl, hb4⟩
  generalize (findF L 10).length = ne at *
  clear HOwn3 HK3 HF HCut HC1 HC2 HB3
  refine HB4.out.mono ?_
  clear HB4
  rintro en w4 (⟨N, bs, g, cap, rfl, hN1, hN2, hbl, hown4, hb4⟩ | ⟨rfl, hb4⟩)
  · have hbw4 := hbw3.trans (hb4.mono hbw3.size)
    have HOwn4 := Lib.hid (own_base hown4 hbw3.size)
    have HBl := Lib.hid hbl
    clear hown4 hbl
    obtain ⟨d, hd, hdN⟩ : ∃ d : Nat, (IntKind.u64.wrap pos).tmod (N : Int) = (d : Int) ∧ d < N := umod_nat pos N (by omega)
    obtain ⟨r, hr, hr3⟩ : ∃ r : Nat, (IntKind.u64.wrap less).tmod 3 = (r : Int) ∧ r < 3 := umod_three less
    have hdi : (d : Int) < (N : Int) := Int.ofNat_lt.2 hdN
    obtain ⟨x, hx⟩ := get_some (l := bs) (Nat.lt_of_lt_of_eq hdN HBl.out.symm)
    have hcell : w4.cell? ⟨g, d, none⟩ = some (B x) := own_byte HOwn4.out hdN hx
    have hfz : w4.frozen? ⟨g, d, none⟩ = false := World.ownsRow.frozenAt HOwn4.out d
    obtain ⟨y, hy⟩ : ∃ y : UInt8, y = x ^^^ by_ := ⟨_, rfl⟩
    have hxor : bits .xor .u8 (x.toNat : Int) (by_.toNat : Int) = (y.toNat : Int) := by rw [hy]; exact u8_xor x by_
    clear hy
    clear hx
    go_upto_region 9 with fail
    obtain ⟨q, hq⟩ : ∃ q, q = N - r := ⟨_, rfl⟩
    have hsub : (N : Int) - (r : Int) = (q : Int) := by omega
    have hcap : q ≤ cap := by
      rcases HOwn4.out.2 with ⟨h, _⟩ | ⟨_, _, _, h, _, _, h1, _⟩
      · cases h
      · injection h with _ _ h2; omega
    have hqc : (q : Int) ≤ (cap : Int) := by omega
    obtain ⟨w5, hw5⟩ : ∃ w5, w5 = w4.setCell ⟨g, d, none⟩ (B y) := ⟨_, rfl⟩
    obtain ⟨ps, hps⟩ : ∃ ps : List UInt8, ps = (bs.set d y).take q := ⟨_, rfl⟩
    have HPl : Hid (ps.length = q) := by
      unfold Hid
      rw [hps, List.length_take, List.length_set, HBl.out]; omega
    have HOwn5 : Hid (w5.ownsRow w.heap.size 5 1 (.slice (some ⟨g, 0, none⟩) q cap) q (ps.map B)) := by
      unfold Hid
      rw [hps, hw5, List.map_take, List.map_set]
      exact own_take (own_stored HOwn4.out d) (by omega)
    have hbw5 : Below w.heap.size w w5 := by
      rw [hw5]
      exact hbw4.setCell (p := ⟨g, d, none⟩) (own_ge HOwn4.out) _
    rw [show w4.setCell ⟨g, d, none⟩ (B y) = w5 from hw5.symm]
    have hqN : q ≤ N := by omega
    clear hps hw5 hcell hfz hxor hd hdN hdi HOwn4 HBl hb4 hq
    go_wp2_with (at_builtin; refine wpList_app48 rfl (.tmp 73) (.tmp 74) _ rfl w.heap.size 5 (.int .u8 0) Try.underlying23 info_byte rfl (.slice (some ⟨g, 0, none⟩) q cap) q (ps.map B) rfl HOwn5.out w.heap.size M nm cm (more.map B) rfl ?r1 (HM.out.below hbw5) (fun u hu => bytes_one hu) ?r2 hbw5.size ?_)
    case r1 => rw [List.length_map]; exact HNM.out
    case r2 => omega
    intro v6 w6 hown6 hg6 hat6
    have hbw6 : Below w.heap.size w w6 := below_own hbw5 HOwn5.out hg6
    obtain ⟨A6, c6, hv6⟩ := own_form hown6
    subst hv6
    have hcap6 : q + nm ≤ c6 ∧ c6 ≤ maxLen := by
      rcases hown6.2 with ⟨h, h0⟩ | ⟨g', cap', cur, h, _, _, h1, h2, _⟩
      · injection h with _ _ h2; unfold maxLen; omega
      · injection h with _ _ h3; subst h3; exact ⟨h1, h2⟩
    have HD1 : Hid (∀ W, Below w6.heap.size w6 W → Calls Try.prog 22 #[.slice K nk ck, .slice A6 (q + nm) c6] W (CheckPost W (checkF keys (ps ++ more)))) := fun W hW => by
      have h := check_any K A6 ck c6 keys (ps ++ more) W (((HK.out.below hbw6).more hbw6.size).below hW |>.more hW.size) (by rw [List.map_append]; exact ((Rd.of_own hown6).below hW).more hW.size) (by rw [List.length_append, HPl.out, HNM.out]; exact hcap6.1) hcap6.2
      rwa [HNK.out, List.length_append, HPl.out, HNM.out] at h
    have HD2 : Hid (∀ W, Below w6.heap.size w6 W → Calls Try.prog 23 #[.slice K nk ck, .slice A6 (q + nm) c6] W (CheckPost W (checkF keys (ps ++ more)))) := fun W hW => by
      have h := rcheck_any K A6 ck c6 keys (ps ++ more) W (((HK.out.below hbw6).more hbw6.size).below hW |>.more hW.size) (by rw [List.map_append]; exact ((Rd.of_own hown6).below hW).more hW.size) (by rw [List.length_append, HPl.out, HNM.out]; exact hcap6.1) hcap6.2
      rwa [HNK.out, List.length_append, HPl.out, HNM.out] at h
    obtain ⟨⟨m2, e2⟩, h2⟩ : ∃ r, r = checkF keys (ps ++ more) := ⟨_, rfl⟩
    rw [← h2] at HD1 HD2
    generalize q + nm = qn at *
    clear h2 hown6 hg6 hat6 HOwn5 HPl hcap6 hsub hqc hr
    go_wp2_with ((first
      | (go_at_call 22; refine (HD1.out _ (Below.refl _ _)).mono ?_; rintro en w7 ⟨rfl, hb7⟩)
      | (go_at_call 23; refine (HD2.out _ hb7).mono ?_; rintro en w8 ⟨rfl, hb8⟩; have hbw8 := hbw6.trans ((hb7.trans (hb8.mono hb7.size)).mono hbw6.size))
      | (go_at_call 21; refine (awake10_any _).mono ?_; rintro en w9 ⟨rfl, hb9⟩)))
    go_ret
    exact ⟨rfl, hbw8.trans (hb9.mono hbw8.size)⟩
  · have hbw4 := hbw3.trans (hb4.mono hbw3.size)
    go_wp2_with (go_at_call 21; refine (awake10_any _).mono ?_; rintro en w5 ⟨rfl, hb5⟩)
    go_ret
    exact ⟨rfl, hbw4.trans (hb5.mono hbw4.size)⟩
end Go.Proofs.Ythmecidpjlaonaa
