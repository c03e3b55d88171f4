/-
  What these parts of the proof come to, functions walked and plain laws: Sg, Word0, Word, Word2, Sum, Tag, Pair. No condition.
-/
import Derived.Test.YtadllffeoibelaaGreatS3
import Derived.Test.YtadllffeoibelaaGreatS2
import Derived.BigQuiet
import Derived.Deep.QuietTactic
import Derived.Test.YtadllffeoibelaaGreatS1
import Derived.Laws.CopyOwn
import Derived.RegionCalls
import Derived.Deep.RegionWith
import Derived.StillTailTactics
namespace Go.Proofs.YtadllffeoibelaaGreat
section
open Go.RowKit
theorem wpList_load_at {P : Program} {ops : Array Oper} {rest : List Oper} {o : Oper} {a : Act} {w : World} {Q : Exit→Act→World→Prop} (hgd : o.guard = none) (ty : TypeId) (x : Operand) (ho : o.op = .load ty x)
  (g off : Nat) (hx : a.eval x = .pointer (some ⟨g,off,none⟩)) (cs : Array Value) (d : TypeDesc) (hc : ∀ j u,cs[j]? = some u→w.cell? ⟨g,off + j,none⟩ = some u)
  (hu : P.underlying ty = some d) (hd : d.isRow = true) (hi : (P.info? ty).map (·.size) = some cs.size)
  (h : wpList P ops Q rest (a.put o.dst (.agg cs)) w) : wpList P ops Q (o :: rest) a w:=by
 have e : cs.toList.toArray = cs:=by simp
 refine wpList_load_mid hgd ty x ho g off hx cs.toList d ?_ hu hd (by simpa using hi) (by rw [e]; exact h)
 intro j u hj
 exact hc j u (by simpa using hj)
structure Sg where
 vote : Vt
 sig : List UInt8
 A : Option Addr
 cap : Nat
namespace Sg
def cells (s : Sg) : Array Value:=s.vote.cells.push (.slice s.A s.sig.length s.cap)
abbrev val (s : Sg) : Value:=.agg s.cells
theorem size_cells (s : Sg) : s.cells.size = 23:=by simp [cells]
theorem cell_vote (s : Sg) (j : Nat) (u : Value) (h : s.vote.cells[j]? = some u) : s.cells[j]? = some u:=by
 have hj : j < s.vote.cells.size:=by
  rcases Nat.lt_or_ge j s.vote.cells.size with h1 | h1
  ·exact h1
  ·rw [Array.getElem?_eq_none h1] at h; cases h
 unfold cells
 rw [Array.getElem?_push_lt hj,← h,Array.getElem?_eq_getElem hj]
theorem cell_sig (s : Sg) : s.cells[22]? = some (.slice s.A s.sig.length s.cap):=by
 unfold cells
 rw [show 22 = s.vote.cells.size from rfl,Array.getElem?_push_size]
end Sg
def SgOk (w : World) (B' : Nat) (s : Sg) : Prop:=s.vote.ok∧Rd w B' s.A (s.sig.map B)∧s.sig.length≤140737488351232
theorem SgOk.below {w w' : World} {B' : Nat} {s : Sg} (h : SgOk w B' s) (hb : Below B' w w') : SgOk w' B' s:=⟨h.1,h.2.1.below hb,h.2.2⟩
theorem SgOk.more {w : World} {B' B'' : Nat} {s : Sg} (h : SgOk w B' s) (hb : B'≤B'') : SgOk w B'' s:=⟨h.1,h.2.1.more hb,h.2.2⟩
end
section
open Go.RowKit
def pad8 (l : List UInt8) : List UInt8:=(l ++ [0,0,0,0,0,0,0,0]).take 8
def wordN (l : List UInt8) : Nat:=numN (pad8 l)
theorem or_add' (x y k : Nat) (hx : x % 2 ^ k = 0) (hy : y < 2 ^ k) (h : x + y < 18446744073709551616) : bits .or .u64 (x : Int) (y : Int) = ((x + y : Nat) : Int):=by
 have e : x = 2 ^ k * (x / 2 ^ k):=by have:=Nat.div_add_mod x (2 ^ k); omega
 have:=or_add (x / 2 ^ k) y k hy (by rw [← e]; exact h)
 rw [← e] at this
 exact this
theorem sh_val (b : UInt8) (p : Nat) (hp : 256 * p≤18446744073709551616) : IntKind.u64.wrap (IntKind.u64.wrap (b.toNat : Int) * (p : Int)) = ((b.toNat * p : Nat) : Int):=by
 have hb:=b.toNat_lt
 have h1 : b.toNat * p < 256 * p∨p = 0:=by
  rcases Nat.eq_zero_or_pos p with h | h
  ·exact .inr h
  ·exact .inl (Nat.mul_lt_mul_of_pos_right hb h)
 have e1 : IntKind.u64.wrap (b.toNat : Int) = (b.toNat : Int):=by rw [IntKind.wrap_u64]; omega
 have e2 : (b.toNat : Int) * (p : Int) = ((b.toNat * p : Nat) : Int):=(Int.natCast_mul ..).symm
 rw [e1,e2,IntKind.wrap_u64]
 rcases h1 with h1 | h1
 ·omega
 ·subst h1; simp
theorem sh_last (b : UInt8) : IntKind.u64.wrap (b.toNat : Int) = ((b.toNat : Nat) : Int):=by
 have hb:=b.toNat_lt
 rw [IntKind.wrap_u64]; omega
theorem nest8 (b0 b1 b2 b3 b4 b5 b6 b7 : UInt8) : (bits .or .u64 (bits .or .u64 (bits .or .u64 (bits .or .u64 (bits .or .u64 (bits .or .u64 (bits .or .u64 (IntKind.u64.wrap (IntKind.u64.wrap (b0.toNat : Int) * 72057594037927936)) (IntKind.u64.wrap (IntKind.u64.wrap (b1.toNat : Int) * 281474976710656))) (IntKind.u64.wrap (IntKind.u64.wrap (b2.toNat : Int) * 1099511627776))) (IntKind.u64.wrap (IntKind.u64.wrap (b3.toNat : Int) * 4294967296))) (IntKind.u64.wrap (IntKind.u64.wrap (b4.toNat : Int) * 16777216))) (IntKind.u64.wrap (IntKind.u64.wrap (b5.toNat : Int) * 65536))) (IntKind.u64.wrap (IntKind.u64.wrap (b6.toNat : Int) * 256))) (IntKind.u64.wrap (b7.toNat : Int))) = ((wordN [b0,b1,b2,b3,b4,b5,b6,b7] : Nat) : Int):=by
 have h0:=b0.toNat_lt
 have h1:=b1.toNat_lt
 have h2:=b2.toNat_lt
 have h3:=b3.toNat_lt
 have h4:=b4.toNat_lt
 have h5:=b5.toNat_lt
 have h6:=b6.toNat_lt
 have h7:=b7.toNat_lt
 have e0 : IntKind.u64.wrap (IntKind.u64.wrap (b0.toNat : Int) * 72057594037927936) = ((b0.toNat * 72057594037927936 : Nat) : Int):=sh_val b0 72057594037927936 (by decide)
 have e1 : IntKind.u64.wrap (IntKind.u64.wrap (b1.toNat : Int) * 281474976710656) = ((b1.toNat * 281474976710656 : Nat) : Int):=sh_val b1 281474976710656 (by decide)
 have e2 : IntKind.u64.wrap (IntKind.u64.wrap (b2.toNat : Int) * 1099511627776) = ((b2.toNat * 1099511627776 : Nat) : Int):=sh_val b2 1099511627776 (by decide)
 have e3 : IntKind.u64.wrap (IntKind.u64.wrap (b3.toNat : Int) * 4294967296) = ((b3.toNat * 4294967296 : Nat) : Int):=sh_val b3 4294967296 (by decide)
 have e4 : IntKind.u64.wrap (IntKind.u64.wrap (b4.toNat : Int) * 16777216) = ((b4.toNat * 16777216 : Nat) : Int):=sh_val b4 16777216 (by decide)
 have e5 : IntKind.u64.wrap (IntKind.u64.wrap (b5.toNat : Int) * 65536) = ((b5.toNat * 65536 : Nat) : Int):=sh_val b5 65536 (by decide)
 have e6 : IntKind.u64.wrap (IntKind.u64.wrap (b6.toNat : Int) * 256) = ((b6.toNat * 256 : Nat) : Int):=sh_val b6 256 (by decide)
 have e7:=sh_last b7
 rw [e0,e1,e2,e3,e4,e5,e6,e7]
 rw [or_add' _ _ 56 (by omega) (by omega) (by omega)]
 rw [or_add' _ _ 48 (by omega) (by omega) (by omega)]
 rw [or_add' _ _ 40 (by omega) (by omega) (by omega)]
 rw [or_add' _ _ 32 (by omega) (by omega) (by omega)]
 rw [or_add' _ _ 24 (by omega) (by omega) (by omega)]
 rw [or_add' _ _ 16 (by omega) (by omega) (by omega)]
 rw [or_add' _ _ 8 (by omega) (by omega) (by omega)]
 simp [wordN,pad8,numN]; omega
end
section
open Go.RowKit
set_option maxRecDepth 100000 in
set_option maxHeartbeats 1000000 in
theorem word_long (b o n c : Nat) (b0 b1 b2 b3 b4 b5 b6 b7 : UInt8) (w : World) (hn : 8≤n) (hm : n≤9223372036854775807)
  (c0 : w.cell? ⟨b,o,none⟩ = some (B b0)) (c1 : w.cell? ⟨b,o + 1,none⟩ = some (B b1)) (c2 : w.cell? ⟨b,o + 2,none⟩ = some (B b2)) (c3 : w.cell? ⟨b,o + 3,none⟩ = some (B b3)) (c4 : w.cell? ⟨b,o + 4,none⟩ = some (B b4)) (c5 : w.cell? ⟨b,o + 5,none⟩ = some (B b5)) (c6 : w.cell? ⟨b,o + 6,none⟩ = some (B b6)) (c7 : w.cell? ⟨b,o + 7,none⟩ = some (B b7)) :
  Calls Tryz.prog 125 #[.slice (some ⟨b,o,none⟩) n c] w (NumPost w (wordN [b0,b1,b2,b3,b4,b5,b6,b7])):=by
 have h8 : (8 : Int)≤(n : Int):=by omega
 have d8 : decide ((8 : Int)≤(n : Int)) = true:=by simp; omega
 go_enter Tryz.func125,Tryz.ntmps125
 go_wp2
 go_quiet (fail)
 go_wp2
 go_ret
 exact ⟨ret_u (nest8 b0 b1 b2 b3 b4 b5 b6 b7),below_drewN (Below.refl _ _) _⟩
theorem eight {l : List UInt8} (h : 8≤l.length) : ∃ b0 b1 b2 b3 b4 b5 b6 b7 r,l = b0 :: b1 :: b2 :: b3 :: b4 :: b5 :: b6 :: b7 :: r:=by
 match l,h with
 | b0 :: b1 :: b2 :: b3 :: b4 :: b5 :: b6 :: b7 :: r,_ => exact ⟨b0,b1,b2,b3,b4,b5,b6,b7,r,rfl⟩
theorem wordN_eight (b0 b1 b2 b3 b4 b5 b6 b7 : UInt8) (r : List UInt8) : wordN (b0 :: b1 :: b2 :: b3 :: b4 :: b5 :: b6 :: b7 :: r) = wordN [b0,b1,b2,b3,b4,b5,b6,b7]:=by
 simp [wordN,pad8]
end
section
open Go.RowKit
theorem size_name : (Tryz.prog.info? 24).map (·.size) = some 8:=by kernel_rfl
theorem name_of {l : List UInt8} (h : l.length = 8) : ∃ n : Nm,n.bytes = l:=by
 match l,h with
 | [b0,b1,b2,b3,b4,b5,b6,b7],_ => exact ⟨⟨b0,b1,b2,b3,b4,b5,b6,b7⟩,rfl⟩
theorem pad8_len (l : List UInt8) : (pad8 l).length = 8:=by simp [pad8]
set_option maxRecDepth 100000 in
set_option maxHeartbeats 1000000 in
theorem word_short (A : Option Addr) (c : Nat) (l : List UInt8) (w : World) (hr : Rd w w.heap.size A (l.map B)) (hl : l.length < 8) :
  Calls Tryz.prog 125 #[.slice A l.length c] w (NumPost w (wordN l)):=by
 obtain ⟨xs,hxs⟩ : ∃ xs,xs = l.map B:=⟨_,rfl⟩
 have h1 : ∀ u ∈ xs,u.oneCell' = true:=by rw [hxs]; exact fun u hu => bytes_one hu
 rw [← hxs] at hr
 have Hx:=Lib.hid hxs; clear hxs
 obtain ⟨n,hn⟩:=name_of (pad8_len l)
 have Hn:=Lib.hid hn; clear hn
 have Hl:=Lib.hid hl
 have d8 : decide ((8 : Int)≤(l.length : Int)) = false:=by simp; omega
 have hi : (l.length : Int) < 8:=by omega
 have hmin : min 8 l.length = l.length:=by omega
 have Hmin:=Lib.hid hmin; clear hmin
 clear hl
 go_enter Tryz.func125,Tryz.ntmps125
 go_wp2_with (refine wpList_copy_splice rfl (.tmp 53) (.tmp 54) _ _ rfl 5 Tryz.underlying60 (by kernel_rfl) _ _ _ _ _ _ rfl rfl w.heap.size 0 [.int .u8 0,.int .u8 0,.int .u8 0,.int .u8 0,.int .u8 0,.int .u8 0,.int .u8 0,.int .u8 0] 24 ?h1 xs ?h2 ?h3 ?h4 h1 w.heap.size w ?h5 (Nat.le_refl _) ?_)
 case h1 => exact heap_alloc_new w _
 case h2 =>
  have:=Hl.out
  have h2 : xs.length = l.length:=by rw [Hx.out]; simp
  rw [h2]; exact (Nat.min_eq_left (by omega)).symm
 case h3 =>
  intro hp
  obtain ⟨b,o,rfl,hb,hc⟩:=hr.cells (by rintro rfl; simp at hp)
  refine ⟨_,rfl,fun j v hv => ?_⟩
  rw [Addr.add_mid,World.cell?_alloc_lt _ _ _ hb]
  exact hc j v hv
 case h4 =>
  have:=Hl.out
  have h2 : xs.length = l.length:=by rw [Hx.out]; simp
  simp [h2]; omega
 case h5 => exact (Below.refl _ _).alloc (Nat.le_refl _) _
 intro w1 hg hb
 have hB1 : Blk w1 w.heap.size 24 #[B n.b0,B n.b1,B n.b2,B n.b3,B n.b4,B n.b5,B n.b6,B n.b7]:=by
  have e : (splice [Value.int .u8 0,.int .u8 0,.int .u8 0,.int .u8 0,.int .u8 0,.int .u8 0,.int .u8 0,.int .u8 0] 0 xs) = [B n.b0,B n.b1,B n.b2,B n.b3,B n.b4,B n.b5,B n.b6,B n.b7]:=by
   have h3 : n.bytes.map B = [B n.b0,B n.b1,B n.b2,B n.b3,B n.b4,B n.b5,B n.b6,B n.b7]:=rfl
   rw [← h3,Hn.out,Hx.out]
   have:=Hl.out
   match l,this with
   | [],_ => rfl
   | [a],_ => rfl
   | [a,b],_ => rfl
   | [a,b,c],_ => rfl
   | [a,b,c,d],_ => rfl
   | [a,b,c,d,e],_ => rfl
   | [a,b,c,d,e,f],_ => rfl
   | [a,b,c,d,e,f,g],_ => rfl
  have h4:=hg.out
  rw [e] at h4
  exact h4
 clear hg
 go_wp2_with (refine wpList_load_at rfl 24 (.tmp 3) rfl w.heap.size 0 rfl #[B n.b0,B n.b1,B n.b2,B n.b3,B n.b4,B n.b5,B n.b6,B n.b7] _ (fun j u hj => by rw [Nat.zero_add,hB1.cell]; exact hj) Tryz.underlying24 rfl size_name ?_)
 refine (number_any n _).mono ?_
 rintro e w2 ⟨rfl,hb2⟩
 go_wp2
 go_ret
 refine ⟨?_,hb.trans (hb2.mono hb.size)⟩
 have e : wordN l = numN n.bytes:=by rw [Hn.out]; rfl
 rw [e]; rfl
theorem word_any (A : Option Addr) (c : Nat) (l : List UInt8) (w : World) (hr : Rd w w.heap.size A (l.map B)) (hm : l.length≤9223372036854775807) :
  Calls Tryz.prog 125 #[.slice A l.length c] w (NumPost w (wordN l)):=by
 by_cases h : l.length < 8
 ·exact word_short A c l w hr h
 ·obtain ⟨b0,b1,b2,b3,b4,b5,b6,b7,r,rfl⟩:=eight (show 8≤l.length by omega)
  obtain ⟨b,o,rfl,_,hc⟩:=hr.cells (by simp)
  rw [wordN_eight]
  exact word_long b o _ c b0 b1 b2 b3 b4 b5 b6 b7 w (by simp) hm (hc 0 _ rfl) (hc 1 _ rfl) (hc 2 _ rfl) (hc 3 _ rfl) (hc 4 _ rfl) (hc 5 _ rfl) (hc 6 _ rfl) (hc 7 _ rfl)
end
section
open Go.RowKit
def wordU (l : List UInt8) : UInt64:=UInt64.ofNat (wordN l)
theorem wordN_lt (l : List UInt8) : wordN l < 18446744073709551616:=by
 have:=numN_lt (pad8 l)
 rw [pad8_len] at this
 exact this
theorem wordU_toNat (l : List UInt8) : (wordU l).toNat = wordN l:=by
 rw [wordU,UInt64.toNat_ofNat']
 exact Nat.mod_eq_of_lt (wordN_lt l)
def stK (l : List UInt8) : Nat→UInt64 × UInt64
 | 0 => (0x243f6a8885a308d3,0x13198a2e03707344)
 | k + 1 => mixN 2 ((stK l k).1 ^^^ wordU (l.drop (8 * k)),(stK l k).2)
def fin (l : List UInt8) : UInt64 × UInt64 :=
 let s:=stK l ((l.length + 7) / 8)
 mixN 4 (s.1,s.2 ^^^ UInt64.ofNat l.length)
def sumF (l : List UInt8) : Nm:=ofN ((fin l).1 ^^^ (fin l).2).toNat
theorem word_u (A : Option Addr) (n c : Nat) (l : List UInt8) (w : World) (hl : l.length = n) (hr : Rd w w.heap.size A (l.map B)) (hm : l.length≤9223372036854775807) :
  Calls Tryz.prog 125 #[.slice A n c] w fun e w' => e = .returned (U (wordU l))∧Below w.heap.size w w':=by
 subst hl
 exact (word_any A c l w hr hm).mono fun e w' h => ⟨by rw [h.1,← wordU_toNat],h.2⟩
theorem mix2 (x y : UInt64) (b : Nat) (w : World) (hb : Blk w b 193 #[U x,U y]) :
  Calls Tryz.prog 126 #[.pointer (some ⟨b,0,none⟩),.int .i64 2] w fun e w' => e = .returned (.tuple #[]) ∧
   Blk w' b 193 #[U (mixN 2 (x,y)).1,U (mixN 2 (x,y)).2]∧w.grownBy w' (some b)∧w'.heap.size = w.heap.size:=mix_any 2 x y b w (by omega) hb
theorem mix4 (x y : UInt64) (b : Nat) (w : World) (hb : Blk w b 193 #[U x,U y]) :
  Calls Tryz.prog 126 #[.pointer (some ⟨b,0,none⟩),.int .i64 4] w fun e w' => e = .returned (.tuple #[]) ∧
   Blk w' b 193 #[U (mixN 4 (x,y)).1,U (mixN 4 (x,y)).2]∧w.grownBy w' (some b)∧w'.heap.size = w.heap.size:=mix_any 4 x y b w (by omega) hb
theorem xor_len (y : UInt64) (n : Nat) (h : n < 18446744073709551616) : bits .xor .u64 (y.toNat : Int) (n : Int) = ((y ^^^ UInt64.ofNat n).toNat : Int):=by
 have e : (n : Int) = ((UInt64.ofNat n).toNat : Int):=by rw [UInt64.toNat_ofNat',Nat.mod_eq_of_lt h]
 rw [e,u_xor]
theorem Rd.cut {w : World} {B' : Nat} {A : Option Addr} {xs : List Value} (h : Rd w B' A xs) (k cap : Nat) (hc : xs.length≤cap) : Rd w B' (if cap = k then A else A.map (·.add k)) (xs.drop k):=by
 by_cases hk : xs.length≤k
 ·exact .inl (List.drop_eq_nil_of_le hk)
 ·obtain ⟨b,o,rfl,hb,hcell⟩:=h.cells (by rintro rfl; simp at hk)
  rw [if_neg (by omega)]
  refine .inr ⟨b,o + k,by simp [Addr.add_mid],hb,fun j u hu => ?_⟩
  rw [List.getElem?_drop] at hu
  rw [Nat.add_assoc]
  exact hcell _ u hu
set_option maxRecDepth 100000 in
set_option maxHeartbeats 2000000 in
theorem sum_any (A : Option Addr) (c : Nat) (l : List UInt8) (w : World) (hr : Rd w w.heap.size A (l.map B)) (hm : l.length≤c) (_hc : c≤maxLen) (hlen : l.length≤1000000000000) :
  Calls Tryz.prog 85 #[.slice A l.length c] w (NmPost w (sumF l)):=by
 have HR:=Lib.hid hr; clear hr
 unfold maxLen at _hc
 go_enter Tryz.func85,Tryz.ntmps85
 go_wp2
 go_loopw [4] (fun i wr => ∃ k : Nat,8 * k≤l.length + 7∧i = .int .i64 ((8 * k : Nat) : Int)∧Blk wr (w.heap.size + 1) 193 #[U (stK l k).1,U (stK l k).2]∧(∃ z,Blk wr w.heap.size 24 z∧z.size = 8)∧Below w.heap.size w wr)
  (fun i _ => l.length + 8 - (intOf i).toNat)
 case atStart =>
  refine ⟨0,by omega,rfl,?_,⟨_,(Blk.new w _ _).alloc _,rfl⟩,((Below.refl _ _).alloc (Nat.le_refl _) _).alloc (by simp) _⟩
  have:=Blk.new (w.alloc (.cells #[.int .u8 0,.int .u8 0,.int .u8 0,.int .u8 0,.int .u8 0,.int .u8 0,.int .u8 0,.int .u8 0] 24)) 193 #[.int .u64 2611923443488327891,.int .u64 1376283091369227076]
  have e : (#[U (stK l 0).1,U (stK l 0).2] : Array Value) = #[.int .u64 2611923443488327891,.int .u64 1376283091369227076]:=rfl
  rw [e]
  simpa using this
 case round =>
  obtain ⟨k,hk,rfl,hB,⟨z,hZ,hz⟩,hbw⟩:=hrel
  have Hz:=Lib.hid hz; clear hz
  by_cases hlt : 8 * k < l.length
  ·have Hst : Hid (stK l (k + 1) = mixN 2 ((stK l k).1 ^^^ wordU (l.drop (8 * k)),(stK l k).2)):=rfl
   generalize hs : stK l k = s at *
   obtain ⟨x,y⟩:=s
   have Hs:=Lib.hid hs; clear hs
   obtain ⟨b,o,rfl,hbo,hcell⟩:=HR.out.cells (by rintro h; simp at h; subst h; simp at hlt)
   have hrd : Rd wr wr.heap.size (some ⟨b,o + 8 * k,none⟩) ((l.drop (8 * k)).map B):=by
    have h1:=((HR.out.below hbw).more hbw.size).cut (8 * k) c (by simpa using hm)
    rw [if_neg (by omega)] at h1
    simpa [Addr.add_mid,List.map_drop] using h1
   have Hrd:=Lib.hid hrd; clear hrd
   have Hcell:=Lib.hid hcell; clear hcell
   have hcne : ¬ c = 8 * k:=by omega
   have c0 : wr.cell? ⟨w.heap.size + 1,0,none⟩ = some (U x):=hB.cell 0
   have f0:=hB.frozen 0
   go_wp2
   have i1 : (0 : Int)≤8 * (k : Int):=by omega
   have i2 : 8 * (k : Int)≤(l.length : Int):=by omega
   have i3 : (8 * (k : Int)).toNat = 8 * k:=by omega
   have HW : Hid (Calls Tryz.prog 125 #[.slice (some ⟨b,o + 8 * k,none⟩) (l.length - 8 * k) (c - 8 * k)] wr.drew fun e w' => e = .returned (U (wordU (l.drop (8 * k))))∧Below wr.heap.size wr w'∧w'.cell? ⟨w.heap.size + 1,0,none⟩ = some (U x)∧w'.frozen? ⟨w.heap.size + 1,0,none⟩ = false):=by
    refine (word_u _ _ _ (l.drop (8 * k)) _ (by simp) Hrd.out.drew (by simp; omega)).mono ?_
    rintro e w' ⟨rfl,hb'⟩
    exact ⟨rfl,(Below.refl _ _).drew.trans hb',(hb'.cell (p:=⟨w.heap.size + 1,0,none⟩) hB.lt).trans c0,(hb'.frozen (p:=⟨w.heap.size + 1,0,none⟩) hB.lt).trans f0⟩
   go_region_with ((go_at_call 125; refine HW.out.mono ?_; rintro e w' ⟨rfl,hb',c0',f0'⟩))
   all_goals
    simp only [u_xor]
    generalize hx2 : x ^^^ wordU (l.drop (8 * k)) = x2 at *
    have Hx2:=Lib.hid hx2; clear hx2
    have hB':=(hB.below hb' hB.lt).put 0 (U x2)
    have hZ':=(hZ.below hb' hZ.lt).far (p:=⟨w.heap.size + 1,0,none⟩) (by simp) (U x2)
    have hbw':=(hbw.trans (hb'.mono hbw.size)).setCell (p:=⟨w.heap.size + 1,0,none⟩) (by simp) (U x2)
    generalize w'.setCell ⟨w.heap.size + 1,0,none⟩ (U x2) = w3 at *
    clear hB hZ hbw hb' c0 c0' f0 f0' HW Hrd
    go_wp2_with fail
    refine (mix2 x2 y _ _ hB').mono ?_
    rintro e w4 ⟨rfl,hB4,hg4,hs4⟩
    have hZ4:=hZ'.kept hg4 (by simp)
    have hbw4 : Below w.heap.size w w4:=hbw'.grown hg4 hbw'.size (by rintro j ⟨⟩; omega)
    clear hZ' hbw' hB' hg4
    go_wp2_with fail
    go_roundw
    case rel =>
     refine ⟨k + 1,by omega,by go_num,?_,⟨z,hZ4,Hz.out⟩,hbw4⟩
     rw [Hst.out]
     exact hB4
    case measure => simp [intOf]; omega
  ·obtain rfl : k = (l.length + 7) / 8:=by omega
   have hfin : fin l = mixN 4 ((stK l ((l.length + 7) / 8)).1,(stK l ((l.length + 7) / 8)).2 ^^^ UInt64.ofNat l.length):=rfl
   have Hfin:=Lib.hid hfin; clear hfin
   generalize hs : stK l ((l.length + 7) / 8) = s at *
   obtain ⟨x,y⟩:=s
   have Hs:=Lib.hid hs; clear hs
   have c1 : wr.cell? ⟨w.heap.size + 1,1,none⟩ = some (U y):=hB.cell 1
   have f1:=hB.frozen 1
   have hl0 : (0 : Int)≤(l.length : Int):=by omega
   go_wp2_with fail
   simp only [xor_len y l.length (by omega)]
   generalize hy2 : y ^^^ UInt64.ofNat l.length = y2 at *
   have Hy2:=Lib.hid hy2; clear hy2
   have hB':=hB.put 1 (U y2)
   have hZ':=hZ.far (p:=⟨w.heap.size + 1,1,none⟩) (by simp) (U y2)
   have hbw':=hbw.setCell (p:=⟨w.heap.size + 1,1,none⟩) (by simp) (U y2)
   generalize wr.setCell ⟨w.heap.size + 1,1,none⟩ (U y2) = w3 at *
   clear hB hZ hbw c1 f1
   refine (mix4 x y2 _ _ hB').mono ?_
   rintro e w4 ⟨rfl,hB4,hg4,hs4⟩
   have hZ4:=hZ'.kept hg4 (by simp)
   have hbw4 : Below w.heap.size w w4:=hbw'.grown hg4 hbw'.size (by rintro j ⟨⟩; omega)
   clear hZ' hbw' hB' hg4
   generalize hf : mixN 4 (x,y2) = f at *
   obtain ⟨fx,fy⟩:=f
   have Hf:=Lib.hid hf; clear hf
   have c0 : w4.cell? ⟨w.heap.size + 1,0,none⟩ = some (U fx):=hB4.cell 0
   have c1 : w4.cell? ⟨w.heap.size + 1,1,none⟩ = some (U fy):=hB4.cell 1
   go_wp2_with fail
   simp only [u_xor]
   generalize hq : fx ^^^ fy = q at *
   have Hq:=Lib.hid hq; clear hq
   refine (of_any q.toNat _).mono ?_
   generalize hr : ofN q.toNat = r
   have Hr:=Lib.hid hr; clear hr
   rintro e w5 ⟨rfl,hb5⟩
   have hZ5:=hZ4.below hb5 hZ4.lt
   have hbw5:=hbw4.trans (hb5.mono hbw4.size)
   clear hZ4 hbw4 hb5 hB4 c0 c1
   go_wp2_with (refine wpList_store_blk rfl 24 (.tmp 2) (.tmp 34) rfl w.heap.size _ rfl rfl 24 z hZ5 ?s1 size_name ?s2 ?_)
   case s1 => rw [Hz.out]; rfl
   case s2 => exact ⟨rfl,rfl,rfl,rfl,rfl,rfl,rfl,rfl⟩
   intro w6 hZ6 hg6 hs6
   have hbw6 : Below w.heap.size w w6:=hbw5.grown hg6 hbw5.size (by rintro j ⟨⟩; omega)
   go_wp2
   refine bodyPost_ret (results_cell_row (g:=w.heap.size) rfl _ _ _ _ _ _ rfl hZ6 Tryz.underlying24 rfl size_name) rfl ⟨?_,hbw6⟩
   have e : sumF l = r:=by rw [sumF,Hfin.out,← Hr.out,← Hq.out]
   rw [e]
end
section
open Go.RowKit
def zeros160 : Array Value:=madeCells #[.int .u8 0] 160
theorem size160 : zeros160.size = 160:=size_madeCells _ _
theorem mk160 (W : World) : (Instr.makeSlice 60 (.int .i64 0) (.int .i64 160)).run Tryz.prog W = .ok (.slice (some ⟨W.heap.size,0,none⟩) 0 160) (W.alloc (.cells zeros160 5)):=by
 obtain ⟨i0,hi,hz0,hz1,hz2⟩:=info_parts info_byte
 have:=run_make (P:=Tryz.prog) W 60 5 i0 (.int .u8 0) Tryz.underlying60 hi hz0 .i64 .i64 0 160 (by omega) (by omega) (by rw [hz2]; omega) (by omega)
 rw [this,hz1]
 rfl
theorem own_cap {w : World} {base e size n : Nat} {v : Value} {xs : List Value} (h : w.ownsRow base e size v n xs) (hn : 0 < n) : ∃ A c,v = .slice A n c∧n≤c∧c≤maxLen:=by
 rcases h.2 with ⟨rfl,rfl⟩ | ⟨g,cap,cur,rfl,_,_,h1,h2,_⟩
 ·omega
 ·exact ⟨_,_,rfl,h1,h2⟩
set_option maxRecDepth 100000 in
set_option maxHeartbeats 1000000 in
theorem tagged_core (t : UInt8) (A : Option Addr) (c : Nat) (l : List UInt8) (r : Nm) (w : World) (hr : Rd w w.heap.size A (l.map B)) (hlen : l.length≤1000000000) (hsum : sumF (t :: l) = r) :
  Calls Tryz.prog 50 #[B t,.slice A l.length c] w (NmPost w r):=by
 have HS:=Lib.hid hsum; clear hsum
 have HR:=Lib.hid hr; clear hr
 have hmk:=mk160
 obtain ⟨xs,hxs⟩ : ∃ xs,xs = l.map B:=⟨_,rfl⟩
 have Hx:=Lib.hid hxs; clear hxs
 go_enter Tryz.func50,Tryz.ntmps50
 go_wp2_with (at_builtin; refine wpList_app rfl (.tmp 7) (.tmp 9) _ rfl w.heap.size 5 (.int .u8 0) 1 1 Tryz.underlying60 info_byte rfl (by decide) (.slice (some ⟨w.heap.size + 1,0,none⟩) 0 160) 0 [] rfl ?r0 (w.heap.size + 3) _ 1 1 [B t] rfl rfl ?r1 ?r2 ?r3 ?r4 ?r5 ?_)
 case r0 =>
  have h:=World.ownsRow_made (base:=w.heap.size) (e:=5) (size:=1) (w.alloc (.cells #[.int .u8 0,.int .u8 0,.int .u8 0,.int .u8 0,.int .u8 0,.int .u8 0,.int .u8 0,.int .u8 0] 24)) zeros160 160 (by simp) (by unfold maxLen; omega) (by rw [size160])
  have h2:=h.alloc (.cells #[B t] 5)
  simpa using h2
 case r1 =>
  have h:=Rd.one ((w.alloc (.cells #[.int .u8 0,.int .u8 0,.int .u8 0,.int .u8 0,.int .u8 0,.int .u8 0,.int .u8 0,.int .u8 0] 24)).alloc (.cells zeros160 5)) (B t) 5
  simpa using h
 case r2 => exact fun u hu => one_cell hu rfl
 case r3 => omega
 case r4 => unfold maxLen; omega
 case r5 => simp; omega
 intro v1 w1 hown1 hg1 hat1
 have hZ1 : Blk w1 w.heap.size 24 #[.int .u8 0,.int .u8 0,.int .u8 0,.int .u8 0,.int .u8 0,.int .u8 0,.int .u8 0,.int .u8 0]:=(((Blk.new w _ _).alloc _).alloc _).kept hg1 (by simp [Value.ownBlock])
 have hb1 : Below w.heap.size w w1:=((((Below.refl _ _).alloc (Nat.le_refl _) _).alloc (by simp) _).alloc (by simp; omega) _).grown hg1 (by simp; omega) (by rintro j hj; simp [Value.ownBlock] at hj; omega)
 clear hg1 hat1 hmk
 go_wp2_with (at_builtin; refine wpList_app rfl (.tmp 10) (.tmp 11) _ rfl w.heap.size 5 (.int .u8 0) 1 1 Tryz.underlying60 info_byte rfl (by decide) _ 1 [B t] rfl ?q0 w.heap.size A l.length c xs rfl ?q1 ?q2 ?q3 ?q4 ?q5 ?q6 ?_)
 case q0 => exact hown1
 case q1 => rw [Hx.out]; simp
 case q2 => rw [Hx.out]; exact HR.out.below hb1
 case q3 => rw [Hx.out]; exact fun u hu => bytes_one hu
 case q4 => omega
 case q5 => unfold maxLen; omega
 case q6 => exact hb1.size
 intro v2 w2 hown2 hg2 hat2
 have hZ2:=hZ1.kept hg2 (own_ne hown1 hZ1 (by decide))
 have hb2:=below_own hb1 hown1 hg2
 clear hg2 hat2 hZ1 hb1 hown1
 have e : [B t] ++ xs = (t :: l).map B:=by rw [Hx.out]; simp
 have hown3 : w2.ownsRow w.heap.size 5 1 v2 (t :: l).length ((t :: l).map B):=by
  rw [← e,List.length_cons,Nat.add_comm]; exact hown2
 clear e hown2
 rcases own_cap hown3 (by simp) with ⟨A2,c2,rfl,hc2,hm2⟩
 go_wp2_with fail
 have hcall : Calls Tryz.prog 85 #[.slice A2 (l.length + 1) c2] w2 (NmPost w2 r):=by
  rw [← HS.out]; exact sum_any A2 c2 (t :: l) w2 (Rd.of_own hown3) hc2 hm2 (by simp; omega)
 refine hcall.mono ?_
 clear hcall
 rintro en w5 ⟨rfl,hb5⟩
 have hZ5:=hZ2.below hb5 hZ2.lt
 have hbw5:=hb2.trans (hb5.mono hb2.size)
 clear hZ2 hb2 hb5 hown3
 go_wp2_with (refine wpList_store_blk rfl 24 (.tmp 4) (.tmp 13) rfl w.heap.size _ rfl rfl 24 _ hZ5 rfl size_name ?s2 ?_)
 case s2 => exact ⟨rfl,rfl,rfl,rfl,rfl,rfl,rfl,rfl⟩
 intro w6 hZ6 hg6 hs6
 have hbw6 : Below w.heap.size w w6:=hbw5.grown hg6 hbw5.size (by rintro j ⟨⟩; omega)
 go_wp2
 exact bodyPost_ret (results_cell_row (g:=w.heap.size) rfl _ _ _ _ _ _ rfl hZ6 Tryz.underlying24 rfl size_name) rfl ⟨rfl,hbw6⟩
end
section
open Go.RowKit
def pairF (t : UInt8) (x y : Nm) : Nm:=sumF (t :: (x.bytes ++ y.bytes))
abbrev Nm.cells (n : Nm) : Array Value:=#[B n.b0,B n.b1,B n.b2,B n.b3,B n.b4,B n.b5,B n.b6,B n.b7]
set_option maxRecDepth 100000 in
set_option maxHeartbeats 1000000 in
theorem pair_core (t : UInt8) (x y r : Nm) (w : World) (hsum : sumF (t :: (x.bytes ++ y.bytes)) = r) :
  Calls Tryz.prog 138 #[B t,x.val,y.val] w (NmPost w r):=by
 have HS:=Lib.hid hsum; clear hsum
 go_enter Tryz.func138,Tryz.ntmps138
 go_wp2
 have hX : Blk ((((w.alloc (Obj.cells x.cells 24)).alloc (Obj.cells y.cells 24)).alloc (Obj.cells #[.int .u8 0,.int .u8 0,.int .u8 0,.int .u8 0,.int .u8 0,.int .u8 0,.int .u8 0,.int .u8 0] 24)).alloc (Obj.cells #[.int .u8 0,.int .u8 0,.int .u8 0,.int .u8 0,.int .u8 0,.int .u8 0,.int .u8 0,.int .u8 0,.int .u8 0,.int .u8 0,.int .u8 0,.int .u8 0,.int .u8 0,.int .u8 0,.int .u8 0,.int .u8 0] 245)) w.heap.size 24 x.cells:=(((Blk.new w _ _).alloc _).alloc _).alloc _
 have hY : Blk ((((w.alloc (Obj.cells x.cells 24)).alloc (Obj.cells y.cells 24)).alloc (Obj.cells #[.int .u8 0,.int .u8 0,.int .u8 0,.int .u8 0,.int .u8 0,.int .u8 0,.int .u8 0,.int .u8 0] 24)).alloc (Obj.cells #[.int .u8 0,.int .u8 0,.int .u8 0,.int .u8 0,.int .u8 0,.int .u8 0,.int .u8 0,.int .u8 0,.int .u8 0,.int .u8 0,.int .u8 0,.int .u8 0,.int .u8 0,.int .u8 0,.int .u8 0,.int .u8 0] 245)) (w.heap.size + 1) 24 y.cells:=by
  have:=((Blk.new (w.alloc (Obj.cells x.cells 24)) 24 y.cells).alloc (Obj.cells #[.int .u8 0,.int .u8 0,.int .u8 0,.int .u8 0,.int .u8 0,.int .u8 0,.int .u8 0,.int .u8 0] 24)).alloc (Obj.cells #[.int .u8 0,.int .u8 0,.int .u8 0,.int .u8 0,.int .u8 0,.int .u8 0,.int .u8 0,.int .u8 0,.int .u8 0,.int .u8 0,.int .u8 0,.int .u8 0,.int .u8 0,.int .u8 0,.int .u8 0,.int .u8 0] 245)
  simpa using this
 have hR : Blk ((((w.alloc (Obj.cells x.cells 24)).alloc (Obj.cells y.cells 24)).alloc (Obj.cells #[.int .u8 0,.int .u8 0,.int .u8 0,.int .u8 0,.int .u8 0,.int .u8 0,.int .u8 0,.int .u8 0] 24)).alloc (Obj.cells #[.int .u8 0,.int .u8 0,.int .u8 0,.int .u8 0,.int .u8 0,.int .u8 0,.int .u8 0,.int .u8 0,.int .u8 0,.int .u8 0,.int .u8 0,.int .u8 0,.int .u8 0,.int .u8 0,.int .u8 0,.int .u8 0] 245)) (w.heap.size + 1 + 1) 24 #[.int .u8 0,.int .u8 0,.int .u8 0,.int .u8 0,.int .u8 0,.int .u8 0,.int .u8 0,.int .u8 0]:=by
  have:=((Blk.new ((w.alloc (Obj.cells x.cells 24)).alloc (Obj.cells y.cells 24)) 24 #[.int .u8 0,.int .u8 0,.int .u8 0,.int .u8 0,.int .u8 0,.int .u8 0,.int .u8 0,.int .u8 0])).alloc (Obj.cells #[.int .u8 0,.int .u8 0,.int .u8 0,.int .u8 0,.int .u8 0,.int .u8 0,.int .u8 0,.int .u8 0,.int .u8 0,.int .u8 0,.int .u8 0,.int .u8 0,.int .u8 0,.int .u8 0,.int .u8 0,.int .u8 0] 245)
  simpa using this
 have hD : Blk ((((w.alloc (Obj.cells x.cells 24)).alloc (Obj.cells y.cells 24)).alloc (Obj.cells #[.int .u8 0,.int .u8 0,.int .u8 0,.int .u8 0,.int .u8 0,.int .u8 0,.int .u8 0,.int .u8 0] 24)).alloc (Obj.cells #[.int .u8 0,.int .u8 0,.int .u8 0,.int .u8 0,.int .u8 0,.int .u8 0,.int .u8 0,.int .u8 0,.int .u8 0,.int .u8 0,.int .u8 0,.int .u8 0,.int .u8 0,.int .u8 0,.int .u8 0,.int .u8 0] 245)) (w.heap.size + 1 + 1 + 1) 245 [Value.int .u8 0,Value.int .u8 0,Value.int .u8 0,Value.int .u8 0,Value.int .u8 0,Value.int .u8 0,Value.int .u8 0,Value.int .u8 0,Value.int .u8 0,Value.int .u8 0,Value.int .u8 0,Value.int .u8 0,Value.int .u8 0,Value.int .u8 0,Value.int .u8 0,Value.int .u8 0].toArray:=by
  have:=(Blk.new (((w.alloc (Obj.cells x.cells 24)).alloc (Obj.cells y.cells 24)).alloc (Obj.cells #[.int .u8 0,.int .u8 0,.int .u8 0,.int .u8 0,.int .u8 0,.int .u8 0,.int .u8 0,.int .u8 0] 24)) 245 #[.int .u8 0,.int .u8 0,.int .u8 0,.int .u8 0,.int .u8 0,.int .u8 0,.int .u8 0,.int .u8 0,.int .u8 0,.int .u8 0,.int .u8 0,.int .u8 0,.int .u8 0,.int .u8 0,.int .u8 0,.int .u8 0])
  simpa using this
 have hbW : Below w.heap.size w ((((w.alloc (Obj.cells x.cells 24)).alloc (Obj.cells y.cells 24)).alloc (Obj.cells #[.int .u8 0,.int .u8 0,.int .u8 0,.int .u8 0,.int .u8 0,.int .u8 0,.int .u8 0,.int .u8 0] 24)).alloc (Obj.cells #[.int .u8 0,.int .u8 0,.int .u8 0,.int .u8 0,.int .u8 0,.int .u8 0,.int .u8 0,.int .u8 0,.int .u8 0,.int .u8 0,.int .u8 0,.int .u8 0,.int .u8 0,.int .u8 0,.int .u8 0,.int .u8 0] 245)):=((((Below.refl _ _).alloc (Nat.le_refl _) _).alloc (by simp) _).alloc (by simp; omega) _).alloc (by simp; omega) _
 generalize ((((w.alloc (Obj.cells x.cells 24)).alloc (Obj.cells y.cells 24)).alloc (Obj.cells #[.int .u8 0,.int .u8 0,.int .u8 0,.int .u8 0,.int .u8 0,.int .u8 0,.int .u8 0,.int .u8 0] 24)).alloc (Obj.cells #[.int .u8 0,.int .u8 0,.int .u8 0,.int .u8 0,.int .u8 0,.int .u8 0,.int .u8 0,.int .u8 0,.int .u8 0,.int .u8 0,.int .u8 0,.int .u8 0,.int .u8 0,.int .u8 0,.int .u8 0,.int .u8 0] 245)) = W at *
 refine wp_region_still_tail 2 (by kernel_rfl) (by kernel_rfl) ?_
 simp only [List.take_succ_cons,List.take_zero,List.drop_succ_cons,List.drop_zero]
 iterate 2 still_step
 refine wpStill_nil ?_
 change wpList _ _ _ _ _ W.drew
 replace hX:=hX.drew
 replace hY:=hY.drew
 replace hR:=hR.drew
 replace hD:=hD.drew
 replace hbW:=hbW.drew
 generalize W.drew = W1 at *
 refine wpList_copy_splice rfl (.tmp 8) (.tmp 9) _ _ rfl 5 Tryz.underlying60 (by kernel_rfl) _ _ _ _ _ _ rfl rfl (w.heap.size + 1 + 1 + 1) 0 [Value.int .u8 0,Value.int .u8 0,Value.int .u8 0,Value.int .u8 0,Value.int .u8 0,Value.int .u8 0,Value.int .u8 0,Value.int .u8 0,Value.int .u8 0,Value.int .u8 0,Value.int .u8 0,Value.int .u8 0,Value.int .u8 0,Value.int .u8 0,Value.int .u8 0,Value.int .u8 0] 245 hD (x.bytes.map B) rfl ?h3 (by simp [Nm.bytes]) (fun u hu => bytes_one hu) (w.heap.size + 1 + 1 + 1) W1 (Below.refl _ _) (Nat.le_refl _) ?_
 case h3 =>
  intro _
  refine ⟨rfl,_,rfl,fun j v hv => ?_⟩
  rw [Addr.add_mid,hX.cell,Nat.zero_add]
  simpa [Nm.bytes] using hv
 intro w2 hg2 hb2
 have hY2:=hY.below hb2 (by omega)
 have hR2:=hR.below hb2 (by omega)
 have hbw2:=hbW.trans (hb2.mono (by omega))
 have hD2 : Blk w2 (w.heap.size + 1 + 1 + 1) 245 (x.bytes.map B ++ [Value.int .u8 0,Value.int .u8 0,Value.int .u8 0,Value.int .u8 0,Value.int .u8 0,Value.int .u8 0,Value.int .u8 0,Value.int .u8 0,Value.int .u8 0,Value.int .u8 0,Value.int .u8 0,Value.int .u8 0,Value.int .u8 0,Value.int .u8 0,Value.int .u8 0,Value.int .u8 0].drop 8).toArray:=hg2.out
 clear hX hY hR hD hbW hb2 hg2
 go_frame
 go_wp2
 refine wp_region_still_tail 2 (by kernel_rfl) (by kernel_rfl) ?_
 simp only [List.take_succ_cons,List.take_zero,List.drop_succ_cons,List.drop_zero]
 iterate 2 still_step
 refine wpStill_nil ?_
 change wpList _ _ _ _ _ w2.drew
 replace hY2:=hY2.drew
 replace hR2:=hR2.drew
 replace hD2:=hD2.drew
 replace hbw2:=hbw2.drew
 generalize w2.drew = w3 at *
 refine wpList_copy_splice rfl (.tmp 11) (.tmp 12) _ _ rfl 5 Tryz.underlying60 (by kernel_rfl) _ _ _ _ _ _ rfl rfl (w.heap.size + 1 + 1 + 1) 8 _ 245 hD2 (y.bytes.map B) rfl ?h4 (by simp [Nm.bytes]) (fun u hu => bytes_one hu) (w.heap.size + 1 + 1 + 1) w3 (Below.refl _ _) (Nat.le_refl _) ?_
 case h4 =>
  intro _
  refine ⟨rfl,_,rfl,fun j v hv => ?_⟩
  rw [Addr.add_mid,hY2.cell,Nat.zero_add]
  simpa [Nm.bytes] using hv
 intro w4 hg4 hb4
 have hR4:=hR2.below hb4 (by omega)
 have hbw4:=hbw2.trans (hb4.mono (by omega))
 have hD4 : Blk w4 (w.heap.size + 1 + 1 + 1) 245 ((x.bytes ++ y.bytes).map B).toArray:=by
  have h:=hg4.out
  unfold Blk
  simpa [splice,Nm.bytes] using h
 have hlt:=hD4.lt
 clear hY2 hR2 hD2 hbw2 hb4 hg4
 go_frame
 go_wp2_with fail
 have hrd : Rd w4 w4.heap.size (some ⟨w.heap.size + 1 + 1 + 1,0,none⟩) ((x.bytes ++ y.bytes).map B):=by
  have h:=Rd.of_blk hD4 0 16
  simpa [Nm.bytes] using h
 have hcall : Calls Tryz.prog 50 #[B t,.slice (some ⟨w.heap.size + 1 + 1 + 1,0,none⟩) 16 16] w4 (NmPost w4 r):=tagged_core t _ 16 (x.bytes ++ y.bytes) r w4 hrd (by simp [Nm.bytes]) HS.out
 refine hcall.mono ?_
 clear hcall hrd hD4
 rintro en w5 ⟨rfl,hb5⟩
 have hZ5:=hR4.below hb5 hR4.lt
 have hbw5:=hbw4.trans (hb5.mono hbw4.size)
 clear hR4 hbw4 hb5
 go_wp2_with (refine wpList_store_blk rfl 24 (.tmp 6) (.tmp 16) rfl (w.heap.size + 1 + 1) _ rfl rfl 24 _ hZ5 rfl size_name ?s2 ?_)
 case s2 => exact ⟨rfl,rfl,rfl,rfl,rfl,rfl,rfl,rfl⟩
 intro w6 hZ6 hg6 hs6
 have hbw6 : Below w.heap.size w w6:=hbw5.grown hg6 hbw5.size (by rintro j ⟨⟩; omega)
 go_wp2
 exact bodyPost_ret (results_cell_row (g:=w.heap.size + 1 + 1) rfl _ _ _ _ _ _ rfl hZ6 Tryz.underlying24 rfl size_name) rfl ⟨rfl,hbw6⟩
end
end Go.Proofs.YtadllffeoibelaaGreat
