/-
  What these parts of the proof come to, functions walked and plain laws: Pd7, SgR, Build, Defs, Sgs, VtRow, Tk, Asc1, Oc. No condition.
-/
import Derived.Test.YtadllffeoibelaaGreatS8
import Derived.Sort.OwnSorted
import Derived.Test.YtadllffeoibelaaGreatS4
import Derived.Test.YtadllffeoibelaaGreatS1
import Derived.Test.YtadllffeoibelaaGreatS6
import Derived.Test.YtadllffeoibelaaGreatS5
import Derived.Laws.IdiomStrings
import Derived.Laws.BytesArg
import Derived.WalkMore
import Derived.ScopeJumps
import Derived.Great.BuildSlice
import Derived.Deep.RegionHeld3
import Derived.Test.YtadllffeoibelaaGreatS2
import Derived.Test.YtadllffeoibelaaGreatS3
namespace Go.Proofs.YtadllffeoibelaaGreat
section
open Go.RowKit Go.Shelf Go.Sort
theorem split_two {α : Type} (l : List α) (i j : Nat) (hij : i < j) (hj : j < l.length) : ∃ (P M S : List α) (x y : α),l = P ++ x :: (M ++ y :: S)∧P.length = i∧P.length + 1 + M.length = j:=by
 have e1 : l.drop i = l[i] :: l.drop (i + 1):=List.drop_eq_getElem_cons _
 have e3 : (l.drop (i + 1)).drop (j - i - 1) = l[j] :: l.drop (j + 1):=by
  rw [List.drop_drop,show i + 1 + (j - i - 1) = j from by omega]; exact List.drop_eq_getElem_cons _
 refine ⟨l.take i,(l.drop (i + 1)).take (j - i - 1),l.drop (j + 1),l[i],l[j],?_,by simp; omega,by simp; omega⟩
 rw [← e3,List.take_append_drop,← e1,List.take_append_drop]
theorem swapL_perm {α : Type} (l : List α) (i j : Nat) (hi : i < l.length) (hj : j < l.length) : (swapL l i j).Perm l:=by
 have key : ∀ (l : List α) (i j : Nat),i < j→j < l.length→(swapL l i j).Perm l:=fun l i j hij hj => by
  obtain ⟨P,M,S,x,y,e,h1,h2⟩:=split_two l i j hij hj
  rw [e,← h2,← h1,swapL_two]
  refine List.Perm.append_left P ?_
  exact ((List.perm_middle).cons y).trans ((List.Perm.swap x y _).trans ((List.perm_middle).symm.cons x))
 rcases Nat.lt_trichotomy i j with h | h | h
 ·exact key l i j h hj
 ·subst h
  unfold swapL
  rw [List.getElem?_eq_getElem hi]
  simp
 ·rw [swapL_comm]
  exact key l j i h hi
section
variable {α : Type} [Inhabited α] (n cap : Nat)
structure Lit (enc : α→List Value) (m : Nat) (e : TypeId) (f : Nat) (gS : Bool) : Prop where
 hx : ∀ args W,(callFunc f args).run Tryz.prog W = ((Extern.ReflectliteSwapper.swap gS args).run Tryz.prog W).andThen fun v w' => .ok (.value v) w'
 ie : ∃ ie : TypeInfo,Tryz.prog.info? e = some ie∧ie.size = m
 agg : ∀ w,(isAgg e).run Tryz.prog w = .ok true w
 len : ∀ x,(enc x).length = m
 one : ∀ x,∀ v ∈ enc x,v.oneCell' = true
omit [Inhabited α] in
theorem lit_run {enc : α→List Value} {m g : Nat} {e : TypeId} {f : Nat} {gS : Bool} (H : Lit enc m e f gS) (W : World) (l : List α) (i j : Nat) (hi : i < l.length) (hj : j < l.length) (hin : i < n) (hjn : j < n)
  (hcell : ∀ (k u : Nat) (z : α) (v : Value),l[k]? = some z→(enc z)[u]? = some v→W.cell? ⟨g,0 + k * m + u,none⟩ = some v) (hfr : ∀ k,k < l.length→∀ u,u < m→W.frozen? ⟨g,0 + k * m + u,none⟩ = false) :
  (callFunc f (#[.int .i64 (i : Int),.int .i64 (j : Int)] ++ #[.slice (some ⟨g,0,none⟩) n cap,typeHandle Tryz.prog e])).run Tryz.prog W = .ok (.value (.tuple #[])) ((W.setCells g (0 + i * m) (enc l[j])).setCells g (0 + j * m) (enc l[i])):=by
 obtain ⟨ie,hie,hsz⟩:=H.ie
 subst hsz
 have hrun:=Lib.run_swap_cells (P:=Tryz.prog) gS e ie hie H.agg g 0 n cap i j hin hjn (enc l[i]) (enc l[j]) (H.len _) (H.len _) (H.one _) (H.one _) W (fun u v hv => hcell i u _ v (List.getElem?_eq_getElem hi) hv) (fun u v hv => hcell j u _ v (List.getElem?_eq_getElem hj) hv)
  (fun u hu => hfr i hi u hu) (fun u hu => hfr j hj u hu)
 rw [H.hx,show (#[Value.int .i64 (i : Int),Value.int .i64 (j : Int)] ++ #[Value.slice (some ⟨g,0,none⟩) n cap,typeHandle Tryz.prog e]) = #[.int .i64 i,.int .i64 j,.slice (some ⟨g,0,none⟩) n cap,typeHandle Tryz.prog e] from rfl,hrun]
 rfl
omit [Inhabited α] in
theorem row_cell {c : CellsOf α} {m : Nat} {t : TypeId} {g : Nat} {W : World} {l : List α} (hm : ∀ x,(c.enc x).length = m) (hb : Blk W g t (l.flatMap c.enc ++ c.tail).toArray) (k u : Nat) (z : α) (v : Value) (hz : l[k]? = some z) (hv : (c.enc z)[u]? = some v) : W.cell? ⟨g,0 + k * m + u,none⟩ = some v:=by
 have hu : u < m:=by rw [← hm z]; exact (List.getElem?_eq_some_iff.1 hv).1
 have h1:=flat_get c.enc m l (fun x _ => hm x) k u z hz hu
 rw [hv] at h1
 rw [hb.cell,Nat.zero_add,List.getElem?_toArray,List.getElem?_append_left (List.getElem?_eq_some_iff.1 h1).1,h1]
omit [Inhabited α] in
theorem put_elem {c : CellsOf α} {m : Nat} {t : TypeId} {g : Nat} {W : World} {l : List α} (hm : ∀ x,(c.enc x).length = m) (hb : Blk W g t (l.flatMap c.enc ++ c.tail).toArray) (i : Nat) (x : α) (hi : i < l.length) :
  Blk (W.setCells g (i * m) (c.enc x)) g t ((l.set i x).flatMap c.enc ++ c.tail).toArray∧W.grownBy (W.setCells g (i * m) (c.enc x)) (some g):=by
 have hlen:=flat_length c.enc m l (fun x _ => hm x)
 have bi : i * m + m≤l.length * m:=by
  have:=Nat.mul_le_mul_right m (show i + 1≤l.length by omega); rwa [Nat.succ_mul] at this
 obtain ⟨b1,k1⟩:=putCells_blk g t (c.enc x) (i * m) W _ hb (by rw [hm,List.length_append,hlen]; omega)
 refine ⟨?_,k1⟩
 rw [hm,List.take_append_of_le_length (by rw [hlen]; omega),List.drop_append_of_le_length (by rw [hlen]; omega),← List.append_assoc,← flat_set c.enc m l (fun x _ => hm x) i x hi] at b1
 exact b1
omit [Inhabited α] in
theorem swapAll_lit {c : CellsOf α} {m g : Nat} {e : TypeId} {f : Nat} {gS : Bool} (H : Lit c.enc m e f gS) (t : TypeId) (w0 : World) : SwapAll c t w0 g n f #[.slice (some ⟨g,0,none⟩) n cap,typeHandle Tryz.prog e]:=by
 intro W l i j hr hn hi hj _
 have hi' : i < l.length:=by omega
 have hj' : j < l.length:=by omega
 have hm:=H.len
 have hrun:=lit_run (g:=g) (n:=n) (cap:=cap) H W l i j hi' hj' hi hj (fun k u z v => row_cell hm hr.blk k u z v) (fun k _ u _ => hr.blk.frozen _)
 obtain ⟨b1,k1⟩:=put_elem hm hr.blk i l[j] hi'
 obtain ⟨b2,k2⟩:=put_elem hm b1 j l[i] (by rw [List.length_set]; exact hj')
 refine ⟨_,by rw [hrun,Nat.zero_add,Nat.zero_add],swapL l i j,swapL_perm l i j hi' hj',?_,k1.trans k2⟩
 unfold swapL
 rw [List.getElem?_eq_getElem hi',List.getElem?_eq_getElem hj']
 exact b2
/-! ### The kit's row and ours -/
theorem flat_eq {enc : α→List Value} {m : Nat} (hm : ∀ x,(enc x).length = m) (hm0 : 0 < m) (l : List α) : flatK enc m l.toArray = (l.flatMap enc).toArray:=by
 have hl:=flat_length enc m l (fun x _ => hm x)
 refine ext_get! (by simp [hl]) fun u hu => ?_
 have hu' : u < l.toArray.size * m:=by simpa using hu
 rw [get_flatK enc m l.toArray u hu']
 have h1 : u / m < l.length:=by
  rw [Nat.div_lt_iff_lt_mul hm0]; simpa using hu'
 have h2 : u % m < m:=Nat.mod_lt _ hm0
 have h3:=flat_get enc m l (fun x _ => hm x) (u / m) (u % m) l[u / m] (List.getElem?_eq_getElem h1) h2
 rw [Nat.div_add_mod' u m] at h3
 have hu2 : u < (l.flatMap enc).length:=by rw [hl]; simpa using hu'
 rw [List.getElem?_eq_getElem hu2,List.getElem?_eq_getElem (by rw [hm]; exact h2)] at h3
 rw [getElem!_pos l.toArray (u / m) (by simpa using h1),getElem!_pos (l.flatMap enc).toArray u (by simpa using hu2)]
 simp only [List.getElem_toArray]
 rw [getElem!_pos (enc l[u / m]) (u % m) (by rw [hm]; exact h2)]
 exact (Option.some.inj h3).symm
theorem holds_of {c : CellsOf α} {m : Nat} (hm : ∀ x,(c.enc x).length = m) (hm0 : 0 < m) {W : World} {g : Nat} {t : TypeId} {l : List α} (hb : Blk W g t (l.flatMap c.enc ++ c.tail).toArray) : HoldsK c.enc m W g 0 l.toArray:=by
 intro u hu
 rw [flat_eq hm hm0] at hu ⊢
 refine ⟨?_,hb.frozen _⟩
 have hu2 : u < (l.flatMap c.enc).length:=by simpa using hu
 rw [hb.cell,Nat.zero_add,getElem!_pos (l.flatMap c.enc).toArray u hu,List.getElem?_toArray,List.getElem?_append_left hu2,List.getElem?_eq_getElem hu2]
 rfl
theorem sortWorld_row {c : CellsOf α} {m : Nat} (hm : ∀ x,(c.enc x).length = m) (hm0 : 0 < m) {W : World} {g : Nat} {t : TypeId} {l l' : List α} (hb : Blk W g t (l.flatMap c.enc ++ c.tail).toArray) (hl : l'.length = l.length) (k : Nat) (os : Array Obj) :
  RowE c t W g l' (sortWorldK c.enc m W g 0 k l'.toArray os):=by
 have e : (l'.flatMap c.enc).length = (l.flatMap c.enc).length:=by rw [flat_length c.enc m l' (fun x _ => hm x),flat_length c.enc m l (fun x _ => hm x),hl]
 unfold sortWorldK putRowK
 rw [flat_eq hm hm0]
 have hg : g < W.heap.size:=hb.lt
 refine ⟨?_,rfl,rfl,rfl,by simp,fun i hi hne => ?_⟩
 ·show (grow (putRow id (Sort.ahead W k) g 0 (l'.flatMap c.enc).toArray) os).heap[g]? = _
  rw [heap_grow_old _ _ (by simpa using hg)]
  have hb' : W.heap[g]? = some (.cells (l.flatMap c.enc ++ c.tail).toArray t (0,0)):=hb
  simp only [putRow,mapBlock,Sort.ahead,Array.getElem?_modify,hb',onCells,if_true,Option.map_some]
  congr 2
  apply Array.ext
  ·simp [putCells,e]
  ·intro u h1 h2
   simp only [putCells,Array.getElem_mapIdx,Nat.zero_le,true_and,Nat.zero_add,Nat.sub_zero,id,List.getElem_toArray]
   by_cases hu : u < (l'.flatMap c.enc).length
   ·rw [if_pos (by simpa using hu),getElem!_pos (l'.flatMap c.enc).toArray u (by simpa using hu),List.getElem_append_left hu]
    rfl
   ·rw [if_neg (by simpa using hu),List.getElem_append_right (by omega),List.getElem_append_right (by omega)]
    simp only [e]
 ·rw [heap_grow_old _ _ (by simpa using hi)]
  have : g ≠ i:=fun e => hne (by rw [e])
  simp [putRow,mapBlock,Sort.ahead,Array.getElem?_modify,this]
def BrkOn (c : CellsOf α) (t : TypeId) (w0 : World) (g n f F : Nat) (sb lb : Array Value) (l0 : List α) : Prop :=
 ∀ (a b : Nat) (w : World),PRow c t g l0 w0 w→a + 12 < b→b≤n →
  Calls Tryz.prog 230 #[.agg #[.func (.func F) #[] lb,.func (.func f) #[] sb],.int .i64 (a : Int),.int .i64 (b : Int)] w fun e w' => e = .returned (.tuple #[])∧PRow c t g l0 w w'
theorem brk_lit {c : CellsOf α} {m g : Nat} {e : TypeId} {f : Nat} {gS : Bool} (H : Lit c.enc m e f gS) (hm0 : 0 < m) (t : TypeId) (w0 : World) (F : Nat) (lb : Array Value) (l0 : List α) (hn : l0.length = n) (hsm : n≤1000000) :
  BrkOn c t w0 g n f F #[.slice (some ⟨g,0,none⟩) n cap,typeHandle Tryz.prog e] lb l0:=by
 intro a b w hw hab' hb
 have hab : a≤b:=by omega
 obtain ⟨l,h1,h2⟩:=hw
 have hl : l.length = n:=h2.length_eq.trans hn
 have hm:=H.len
 have hS : SwapSwapsK Tryz.prog f #[.slice (some ⟨g,0,none⟩) n cap,typeHandle Tryz.prog e] c.enc m g 0 l.toArray.size:=by
  intro W dk hk hs i j hi hj
  simp only [List.size_toArray] at hs hi hj
  have hi' : i < dk.toList.length:=by simpa [hs] using hi
  have hj' : j < dk.toList.length:=by simpa [hs] using hj
  have key : ∀ (k u : Nat),k < dk.toList.length→u < m→W.cell? ⟨g,0 + k * m + u,none⟩ = (c.enc dk.toList[k]!)[u]?∧W.frozen? ⟨g,0 + k * m + u,none⟩ = false:=fun k u hk' hu => by
   have hkd : k < dk.size:=by simpa using hk'
   have hlt : k * m + u < dk.size * m:=by
    have:=Nat.mul_le_mul_right m (show k + 1≤dk.size by omega); rw [Nat.succ_mul] at this; omega
   have h:=hk (k * m + u) (by simpa using hlt)
   have hd : (k * m + u) / m = k:=by rw [Nat.add_comm,Nat.add_mul_div_right _ _ hm0,Nat.div_eq_of_lt hu,Nat.zero_add]
   have hmo : (k * m + u) % m = u:=by rw [Nat.add_comm,Nat.add_mul_mod_self_right,Nat.mod_eq_of_lt hu]
   rw [get_flatK c.enc m dk _ hlt,hd,hmo] at h
   rw [Nat.add_assoc]
   refine ⟨h.1.trans ?_,h.2⟩
   have e1 : dk[k]! = dk.toList[k]!:=by rw [getElem!_pos dk k hkd,getElem!_pos dk.toList k hk']; rfl
   rw [e1,getElem!_pos (c.enc dk.toList[k]!) u (by rw [hm]; exact hu),List.getElem?_eq_getElem (by rw [hm]; exact hu)]
   rfl
  have hrun:=lit_run (g:=g) (n:=n) (cap:=cap) H W dk.toList i j hi' hj' (by omega) (by omega)
   (fun k u z v hz hv => by
    have hk':=(List.getElem?_eq_some_iff.1 hz).1
    have hu : u < m:=by rw [← hm z]; exact (List.getElem?_eq_some_iff.1 hv).1
    have ez : dk.toList[k]! = z:=by rw [getElem!_pos dk.toList k hk']; exact (List.getElem?_eq_some_iff.1 hz).2
    rw [(key k u hk' hu).1,ez,hv]) (fun k hk' u hu => (key k u hk' hu).2)
  rw [hrun,getElem!_pos dk j (by simpa using hj'),getElem!_pos dk i (by simpa using hi')]
  rfl
 have hH : HoldsK c.enc m w g 0 l.toArray:=holds_of hm hm0 h1.blk
 refine (Any.breakPatterns_func_cells_w { slLays with } c.enc m hm (.func F) #[] lb f #[.slice (some ⟨g,0,none⟩) n cap,typeHandle Tryz.prog e] g 0 a b l.toArray w hS hH h1.blk.lt hab (by simp; omega) (by simp; omega)).mono ?_
 rintro e w' ⟨rfl,k,os,rfl⟩
 have hp:=breakPatterns_holds l.toArray a b hab (by simp; omega)
 refine ⟨rfl,(breakPatterns l.toArray a b).toList,?_,?_⟩
 ·have hsz : (breakPatterns l.toArray a b).toList.length = l.length:=by
   have:=hp.1; simpa using this
  have:=sortWorld_row hm hm0 h1.blk hsz k os
  simpa using this
 ·have hq:=permIn_mono l.toArray (breakPatterns l.toArray a b) a b 0 l.toArray.size (Nat.zero_le _) (by simp; omega) (Nat.le_refl _) hp
  have h3:=hq.2.2
  rw [Array.extract_size,← hq.1,Array.extract_size] at h3
  exact h3.trans h2
end
end
section
open Go.RowKit
structure Ev where
 a : Sg
 b : Sg
namespace Ev
def cells (e : Ev) : Array Value:=e.a.cells ++ e.b.cells
abbrev val (e : Ev) : Value:=.agg e.cells
theorem size_cells (e : Ev) : e.cells.size = 46:=by simp [cells,Sg.size_cells]
end Ev
end
section
open Go.RowKit
theorem Sg.one (s : Sg) : ∀ u ∈ s.cells.toList,u.oneCell' = true:=by
 intro u hu
 simp [Sg.cells] at hu
 rcases hu with h | h | h | h | h | h | h | h | h | h | h | h | h | h | h | h | h | h | h | h | h | h | h <;> subst h <;> rfl
theorem own_kept {w w' : World} {base e size n : Nat} {row : Option Nat} {v : Value} {xs : List Value} (h : w.ownsRow base e size v n xs) (hg : w.grownBy w' row) (hr : ∀ k,row = some k→w.heap.size≤k∨v.ownBlock ≠ some k) : w'.ownsRow base e size v n xs:=by
 refine ⟨h.1,?_⟩
 rcases h.2 with h2 | ⟨g,cap,cur,rfl,h1,hh,r⟩
 ·exact .inl h2
 ·refine .inr ⟨g,cap,cur,rfl,h1,(hg.block g (lt_of_block hh) ?_).trans hh,r⟩
  intro e
  rcases hr g e.symm with h3 | h3
  ·have:=lt_of_block hh; omega
  ·exact h3 rfl
end
section
open Go.RowKit
abbrev zeroVc : Array Value:=#[.int .i64 0,.int .i64 0,.int .i64 0,.int .i64 0,.int .i64 0,.int .i64 0,.int .u8 0,.int .u8 0,.int .u8 0,.int .u8 0,.int .u8 0,.int .u8 0,.int .u8 0,.int .u8 0,.int .u8 0,.int .u8 0,.int .u8 0,.int .u8 0,.int .u8 0,.int .u8 0,.int .u8 0,.int .u8 0]
theorem one_vt {u : Value} (v : Vt) (h : u ∈ v.cells.toList) : u.oneCell' = true:=by
 simp at h
 rcases h with rfl | rfl | rfl | rfl | rfl | rfl | rfl | rfl | rfl | rfl | rfl | rfl | rfl | rfl | rfl | rfl | rfl | rfl | rfl | rfl | rfl | rfl <;> rfl
theorem wp_appD {P : Program} {w : World} {o : Oper} {a : Act} {K : Act→World→Prop} {Q : Exit→Act→World→Prop} (d : Option Tmp) (hd : o.dst = d) (s x : Operand) (t : TypeId)
  (ho : o.op = .call { callee:=.builtin .append,args:=#[s,x],argTypes:=#[t,t] })
  (base : Nat) (e : TypeId) (z : Value) (size bytes : Nat) (ht : P.underlying t = some (.slice e)) (hi : (P.info? e).map (fun i => (i.zero,i.size,i.bytes)) = some (some z,size,bytes)) (hzs : z.cells.size = size) (hsz : 0 < size)
  (v : Value) (n : Nat) (xs : List Value) (hs : a.eval s = v) (hown : w.ownsRow base e size v n xs)
  (B : Nat) (A : Option Addr) (m c : Nat) (news : List Value) (hx : a.eval x = .slice A m c) (hl : news.length = m * size) (hr : Rd w B A news) (h1 : ∀ u ∈ news,u.oneCell' = true)
  (hbytes : (n + m) * bytes≤140737488355328) (h63 : n + m≤maxLen) (hbase : base≤w.heap.size)
  (h : ∀ v' w',w'.ownsRow base e size v' (n + m) (xs ++ news)→w.grownBy w' v.ownBlock→(v'.ownBlock = v.ownBlock∨v'.ownBlock = some w.heap.size)→K (a.put d v') w') :
  o.wp P a w K Q:=by
 subst hd
 exact wp_app s x t ho base e z size bytes ht hi hzs hsz v n xs hs hown B A m c news hx hl hr h1 hbytes h63 hbase h
theorem Rd.kept {w w' : World} {B' : Nat} {A : Option Addr} {xs : List Value} {row : Option Nat} (h : Rd w B' A xs) (hg : w.grownBy w' row) (hB : B'≤w.heap.size) (hne : ∀ p,A = some p→some p.block ≠ row) : Rd w' B' A xs:=by
 rcases h with h | ⟨b,o,rfl,hb,hc⟩
 ·exact .inl h
 ·exact .inr ⟨b,o,rfl,hb,fun j u hu => (World.cell?_of_block (a:=⟨b,o + j,none⟩) (hg.block b (by omega) (hne _ rfl))).trans (hc j u hu)⟩
abbrev zeroSc : Array Value:=#[.int .i64 0,.int .i64 0,.int .i64 0,.int .i64 0,.int .i64 0,.int .i64 0,.int .u8 0,.int .u8 0,.int .u8 0,.int .u8 0,.int .u8 0,.int .u8 0,.int .u8 0,.int .u8 0,.int .u8 0,.int .u8 0,.int .u8 0,.int .u8 0,.int .u8 0,.int .u8 0,.int .u8 0,.int .u8 0,.slice none 0 0]
theorem one_zs {u : Value} (h : u ∈ zeroSc.toList) : u.oneCell' = true:=by
 simp at h
 rcases h with rfl | rfl | rfl <;> rfl
theorem one_zv {u : Value} (h : u ∈ zeroVc.toList) : u.oneCell' = true:=by
 simp at h
 rcases h with rfl | rfl <;> rfl
theorem one_sg {u : Value} (s : Sg) (h : u ∈ s.cells.toList) : u.oneCell' = true:=by
 unfold Sg.cells at h
 rw [Array.toList_push,List.mem_append] at h
 rcases h with h | h
 ·exact one_vt _ h
 ·simp at h; subst h; rfl
theorem size_sg : (Tryz.prog.info? 62).map (·.size) = some 23:=by kernel_rfl
abbrev sgLit (v : Vt) (x : Value) : Array Value:=#[I v.kind,I v.slot,I v.round,I v.choice,I v.signer,I v.support,B v.parent.b0,B v.parent.b1,B v.parent.b2,B v.parent.b3,B v.parent.b4,B v.parent.b5,B v.parent.b6,B v.parent.b7,B v.value.b0,B v.value.b1,B v.value.b2,B v.value.b3,B v.value.b4,B v.value.b5,B v.value.b6,B v.value.b7,x]
theorem sg_lit (v : Vt) (sig : List UInt8) (A : Option Addr) (c : Nat) : (Sg.mk v sig A c).cells = sgLit v (.slice A sig.length c):=rfl
theorem Rd.row {w : World} {B' : Nat} {b o : Nat} {l : List Nm} {k : Nat} {x : Nm} (h : Rd w B' (some ⟨b,o,none⟩) (l.flatMap nmc)) (hk : l[k]? = some x) : rowAt w b (o + k * 8) 8 = some x.cells:=by
 obtain ⟨b',o',e,_,hc⟩:=h.name hk
 injection e with e
 injection e with e1 e2
 subst e1; subst e2
 exact rowAt_of (fun j u hu => hc j u (by simpa using hu)) rfl
end
section
open Go.RowKit
attribute [local go_sem ↓] Go.wp_at_zero Go.wp_at_succ loadNm loadVt loadSg loadEv
attribute [local go_sem] runNm runVt runSg runEv pickRow_some rowAt_drew rowAt_drewN
theorem wpList_build1 {P : Program} {ops : Array Oper} {rest : List Oper} {o : Oper} {a : Act} {w : World} {Q : Exit→Act→World→Prop} (hg : o.guard = none) (t e : TypeId) (x : Operand) (ho : o.op = .buildSlice t 1 #[(0,x)])
  (cs : Array Value) (hx : a.eval x = .agg cs) (hu : P.underlying t = some (.slice e)) (hi : (P.info? e).map (fun i => (i.zero.isSome,i.size)) = some (true,cs.size)) (hpos : 0 < cs.size) (hsm : cs.size≤1000)
  (h : wpList P ops Q rest (a.put o.dst (.slice (some ⟨w.heap.size,0,none⟩) 1 1)) (w.alloc (.cells cs e))) : wpList P ops Q (o :: rest) a w:=by
 cases hie : P.info? e with
 | none => simp [hie] at hi
 | some ie =>
  simp only [hie,Option.map_some,Option.some.injEq,Prod.mk.injEq] at hi
  obtain ⟨hz,hsz⟩:=hi
  obtain ⟨z,hzz⟩:=Option.isSome_iff_exists.1 hz
  refine wpList_buildSlice hg t e 1 #[(0,x)] ho cs ie z hu hie hzz (by rw [hsz]; omega) (by rw [hsz]; omega) ?_ h
  have hf:=Great.fill_whole (s:=ie.size) (by rw [hsz]; exact hpos) [Value.agg cs] ((Array.range (1 * ie.size)).map (z.cells[· % z.cells.size]!)) (by intro v hv; rw [List.mem_singleton.1 hv,hsz]; rfl) (by simp)
  have ev : (#[(0,x)].map fun ((i,x) : Nat × Operand) => (i,a.eval x)).toList = ([Value.agg cs].zipIdx 0).map fun x => (x.2,x.1):=by simp [hx]
  rw [ev,hf]
  simp [Value.cells]
theorem info_signed : (Tryz.prog.info? 62).map (fun i => (i.zero,i.size,i.bytes)) = some (some (.agg zeroSc),23,88):=by kernel_rfl
abbrev sgc (s : Sg) : List Value:=s.cells.toList
theorem sgc_len (l : List Sg) : ∀ s ∈ l,(sgc s).length = 23:=fun s _ => by rw [Array.length_toList]; exact s.size_cells
theorem Rd.sgRow {w : World} {B' b o : Nat} {l : List Sg} {k : Nat} {s : Sg} (h : Rd w B' (some ⟨b,o,none⟩) (l.flatMap sgc)) (hk : l[k]? = some s) : rowAt w b (o + k * 23) 23 = some s.cells:=by
 have hpos:=(List.getElem?_eq_some_iff.1 hk).1
 rcases h with h | ⟨b',o',e,hb,hc⟩
 ·have:=flat_length sgc 23 l (sgc_len l)
  rw [h] at this
  simp at this; omega
 ·injection e with e
  injection e with e1 e2
  subst e1; subst e2
  refine rowAt_of (fun j u hu => ?_) s.size_cells
  have hj : j < 23:=by
   have:=(List.getElem?_eq_some_iff.1 hu).1
   rwa [Array.length_toList,s.size_cells] at this
  rw [Nat.add_assoc]
  refine hc _ u ?_
  rw [flat_get sgc 23 l (sgc_len l) k j s hk hj,← hu]
def SgsOk (w : World) (B' : Nat) (l : List Sg) : Prop:=∀ s ∈ l,SgOk w B' s∧SgCap s
end
section
open Go.RowKit
abbrev vtc (v : Vt) : List Value:=v.cells.toList
theorem vtc_len (l : List Vt) : ∀ v ∈ l,(vtc v).length = 22:=fun _ _ => rfl
theorem Rd.voteRow {w : World} {B' b o : Nat} {l : List Vt} {k : Nat} {v : Vt} (h : Rd w B' (some ⟨b,o,none⟩) (l.flatMap vtc)) (hk : l[k]? = some v) : rowAt w b (o + k * 22) 22 = some v.cells:=by
 have hpos:=(List.getElem?_eq_some_iff.1 hk).1
 rcases h with h | ⟨b',o',e,hb,hc⟩
 ·have:=flat_length vtc 22 l (vtc_len l)
  rw [h] at this
  simp at this; omega
 ·injection e with e
  injection e with e1 e2
  subst e1; subst e2
  refine rowAt_of (fun j u hu => ?_) rfl
  have hj : j < 22:=by
   have:=(List.getElem?_eq_some_iff.1 hu).1
   simpa using this
  rw [Nat.add_assoc]
  refine hc _ u ?_
  rw [flat_get vtc 22 l (vtc_len l) k j v hk hj,← hu]
end
section
open Go.RowKit
section
variable {P : Program} {ops : Array Oper} {Q : Exit→Act→World→Prop} {md : Region.Mode} {S : World→Prop} {oi o2 : Oper} {v : Value} {fuel : Nat} {listed : Array Bool} {a : Act} {w : World}
theorem tkD (d i : Nat) (h : wpAnyH P md ops (NoPanic Q) S fuel (listed.setIfInBounds i true) (a.put (some d) v) w) (hi : ops[i]? = some oi:=by rfl) (hd : oi.dst = some d:=by rfl) (hs : Region.noSelect ops = true:=by kernel_rfl) (hf : Region.free md ops listed i = true:=by kernel_rfl) (hr : (Region.ready md ops listed).contains i = true:=by kernel_rfl)
  (hw : Region.wanted oi (yielded ops a.tmps) = true:=by rfl) (hy : ∀ w,S w→(execOp a.eval oi).run P w = .ok (.value v) w:=by (intros; go_simp; (try (with_reducible rfl)))) (hS : S w:=by assumption) : wpAnyH P md ops (NoPanic Q) S (fuel + 1) listed a w :=
 wpAnyH_takeD (some d) hi hd hs hf hr (fun _ _ _ h => h.elim) hw hy hS h
theorem skD (d i : Nat) (h : wpAnyH P md ops (NoPanic Q) S fuel (listed.setIfInBounds i true) (a.put (some d) undef) w) (hi : ops[i]? = some oi:=by rfl) (hd : oi.dst = some d:=by rfl) (hs : Region.noSelect ops = true:=by kernel_rfl) (hf : Region.free md ops listed i = true:=by kernel_rfl) (hr : (Region.ready md ops listed).contains i = true:=by kernel_rfl)
  (hw : Region.wanted oi (yielded ops a.tmps) = false:=by rfl) (hS : S w:=by assumption) : wpAnyH P md ops (NoPanic Q) S (fuel + 1) listed a w :=
 wpAnyH_skipD (some d) hi hd hs hf hr (fun _ _ _ h => h.elim) hw hS h
theorem rgD {id : Nat} (S : World→Prop) (hS : S w.drew) (h : S w.drew→wpAnyH P .any ops (NoPanic Q) S ops.size (Array.replicate ops.size false) a w.drew) (hm : P.follows .mixedOrders = true:=by kernel_rfl) : (Code.region id ops true).wp P Q a w :=
 wp_region_noPanic (wp_region_held_drew hm hS h)
theorem dnD (h : Q .normal a w) (hr : Region.ready md ops listed = []:=by kernel_rfl) : wpAnyH P md ops (NoPanic Q) S fuel listed a w:=wpAnyH_done hr (NoPanic.normal h) _
theorem rd1 (i : Nat) (h : ∀ K' : Act→World→Prop,Shut (∀ a w,S w→(S w→wpAnyH P md ops (NoPanic Q) S fuel (listed.setIfInBounds i true) a w)→K' a w)→if Region.wanted oi (yielded ops a.tmps) = true then Oper.wp P oi a w K' (NoPanic Q) else K' (a.put oi.dst undef) w) (hr : Region.ready md ops listed = [i]:=by kernel_rfl) (ho : ops[i]? = some oi:=by rfl) : wpAnyH P md ops (NoPanic Q) S (fuel + 1) listed a w :=
 wpAnyH_ready hr (by simp) (AllReadyH.cons ho h AllReadyH.nil)
theorem rd2 (i j : Nat) (h : ∀ K' : Act→World→Prop,Shut (∀ a w,S w→(S w→wpAnyH P md ops (NoPanic Q) S fuel (listed.setIfInBounds i true) a w)→K' a w)→if Region.wanted oi (yielded ops a.tmps) = true then Oper.wp P oi a w K' (NoPanic Q) else K' (a.put oi.dst undef) w)
  (h2 : ∀ K' : Act→World→Prop,Shut (∀ a w,S w→(S w→wpAnyH P md ops (NoPanic Q) S fuel (listed.setIfInBounds j true) a w)→K' a w)→if Region.wanted o2 (yielded ops a.tmps) = true then Oper.wp P o2 a w K' (NoPanic Q) else K' (a.put o2.dst undef) w) (hr : Region.ready md ops listed = [i,j]:=by kernel_rfl) (ho : ops[i]? = some oi:=by rfl) (ho2 : ops[j]? = some o2:=by rfl) : wpAnyH P md ops (NoPanic Q) S (fuel + 1) listed a w :=
 wpAnyH_ready hr (by simp) (AllReadyH.cons ho h (AllReadyH.cons ho2 h2 AllReadyH.nil))
end
end
section
open Go.RowKit
attribute [local go_sem ↓] Go.wp_at_zero Go.wp_at_succ loadNm loadVt loadSg loadEv
attribute [local go_sem] runNm runVt runSg runEv pickRow_some rowAt_drew rowAt_drewN
theorem RowE.vt {T : List Value} {w0 W : World} {g i : Nat} {l : List Vt} {x : Vt} (h : RowE ⟨vtc,T⟩ 46 w0 g l W) (hx : l[i]? = some x) : rowAt W g (i * 22) 22 = some x.cells:=by
 refine rowAt_of (fun j u hu => ?_) rfl
 have:=row_cell (c:=⟨vtc,T⟩) (m:=22) (fun _ => rfl) h.blk i j x u hx (by simpa using hu)
 rwa [Nat.zero_add] at this
set_option maxRecDepth 100000 in
set_option maxHeartbeats 2000000 in
theorem ascLess_on (T : List Value) (B g n c : Nat) (l0 : List Vt) (w0 : World) (hB : Blk w0 B 56 #[.slice (some ⟨g,0,none⟩) n c]) (hne : B ≠ g) (hn : l0.length = n) :
  LessE ⟨vtc,T⟩ 46 w0 g l0 lessV 221 #[.pointer (some ⟨B,0,none⟩)]:=by
 intro W l i j x y hr hp hx hy
 have hi : i < n:=by rw [← hn,← hp.length_eq]; exact (List.getElem?_eq_some_iff.1 hx).1
 have hj : j < n:=by rw [← hn,← hp.length_eq]; exact (List.getElem?_eq_some_iff.1 hy).1
 have hc0 : W.cell? ⟨B,0,none⟩ = some (.slice (some ⟨g,0,none⟩) n c):=(hr.box hB hne).cell 0
 have HRows : Hid (∀ V,Below W.heap.size W V→V.cell? ⟨B,0,none⟩ = some (.slice (some ⟨g,0,none⟩) n c)∧rowAt V g (i * 22) 22 = some x.cells∧rowAt V g (j * 22) 22 = some y.cells) :=
  fun V hV => ⟨(hV.cell (p:=⟨B,0,none⟩) (hr.box hB hne).lt).trans hc0,rowAt_below (hr.vt hx) hV hr.blk.lt,rowAt_below (hr.vt hy) hV hr.blk.lt⟩
 have HL : Hid (∀ V,Below W.heap.size W V→Calls Tryz.prog 109 #[x.val,y.val] V (BoolPost V (lessV x y))) :=
  fun V hV => vless_any x y V
 obtain ⟨r,hrr⟩ : ∃ r,r = lessV x y:=⟨_,rfl⟩
 rw [← hrr] at HL ⊢
 clear hrr hc0 hr hp hx hy hB hn
 have hbw : Below W.heap.size W W:=Below.refl _ _
 show Calls Tryz.prog 221 #[.int .i64 (i : Int),.int .i64 (j : Int),.pointer (some ⟨B,0,none⟩)] W _
 go_enter Tryz.func221,Tryz.ntmps221
 go_upto_region 1 with fail
 refine rgD (fun w' => w'.cell? ⟨B,0,none⟩ = some (.slice (some ⟨g,0,none⟩) n c)∧rowAt w' g (i * 22) 22 = some x.cells∧rowAt w' g (j * 22) 22 = some y.cells) (HRows.out _ hbw.drew) fun hHeld => ?_
 refine tkD 6 0 ?_
 go_frame
 refine tkD 7 1 ?_
 go_frame
 refine tkD 8 2 ?_
 go_frame
 refine tkD 9 3 ?_
 go_frame
 refine tkD 10 4 ?_
 go_frame
 refine tkD 11 5 ?_
 go_frame
 refine tkD 12 6 ?_
 go_frame
 refine tkD 13 7 ?_
 go_frame
 refine rd1 8 fun K hK => ?_
 go_simp
 refine (HL.out _ hbw.drew).mono ?_; rintro en w2 ⟨rfl,hb2⟩; have hbw2:=hbw.drew.trans (hb2.mono hbw.size)
 go_wp2_with fail
 refine hK.out _ _ (HRows.out _ hbw2) (fun hHeld => ?_)
 clear hK K
 try go_frame
 refine tkD 5 9 ?_
 go_frame
 refine dnD ?_
 go_wp2
 go_ret
 exact ⟨rfl,hbw2⟩
end
section
open Go.RowKit
structure Oc where
 slot : Int
 round : Int
 choice : Int
 value : Nm
 deriving DecidableEq
abbrev Oc.cells (o : Oc) : Array Value:=#[I o.slot,I o.round,I o.choice,B o.value.b0,B o.value.b1,B o.value.b2,B o.value.b3,B o.value.b4,B o.value.b5,B o.value.b6,B o.value.b7]
abbrev Oc.val (o : Oc) : Value:=.agg o.cells
abbrev Oc.zero : Oc:=⟨0,0,0,Nm.zero⟩
abbrev occ (o : Oc) : List Value:=o.cells.toList
theorem occ_len (l : List Oc) : ∀ o ∈ l,(occ o).length = 11:=fun _ _ => rfl
theorem one_oc {u : Value} (o : Oc) (h : u ∈ o.cells.toList) : u.oneCell' = true:=by
 simp at h
 rcases h with rfl | rfl | rfl | rfl | rfl | rfl | rfl | rfl | rfl | rfl | rfl <;> rfl
instance : Inhabited Oc:=⟨Oc.zero⟩
theorem info_oc : (Tryz.prog.info? 142).map (fun i => (i.zero,i.size,i.bytes)) = some (some (.agg Oc.zero.cells),11,32):=by kernel_rfl
theorem loadOc (p : Value) : Instr.loadAt 142 p = myLoad 142 p:=rfl
theorem runOc (b o : Nat) (w : World) : (myLoad 142 (.pointer (some ⟨b,o,none⟩))).run Tryz.prog w = pickRow 142 b o w (rowAt w b o 11):=run_myLoad _ 11 b o w _ Tryz.underlying142 rfl (by kernel_rfl)
theorem Rd.ocRow {w : World} {B' b o : Nat} {l : List Oc} {k : Nat} {v : Oc} (h : Rd w B' (some ⟨b,o,none⟩) (l.flatMap occ)) (hk : l[k]? = some v) : rowAt w b (o + k * 11) 11 = some v.cells:=by
 have hpos:=(List.getElem?_eq_some_iff.1 hk).1
 rcases h with h | ⟨b',o',e,hb,hc⟩
 ·have:=flat_length occ 11 l (occ_len l)
  rw [h] at this
  simp at this; omega
 ·injection e with e
  injection e with e1 e2
  subst e1; subst e2
  refine rowAt_of (fun j u hu => ?_) rfl
  have hj : j < 11:=by
   have:=(List.getElem?_eq_some_iff.1 hu).1
   simpa using this
  rw [Nat.add_assoc]
  refine hc _ u ?_
  rw [flat_get occ 11 l (occ_len l) k j v hk hj,← hu]
theorem Oc.row_value {w : World} {g t : Nat} (v : Oc) (h : Blk w g t v.cells) : rowAt w g 3 8 = some v.value.cells :=
 Blk.part h 3 v.value.cells (fun j u hu => by
  have hj : j < 8:=(Array.getElem?_eq_some_iff.1 hu).1
  rcases (by omega : j = 0∨j = 1∨j = 2∨j = 3∨j = 4∨j = 5∨j = 6∨j = 7) with rfl | rfl | rfl | rfl | rfl | rfl | rfl | rfl <;> exact hu)
set_option maxRecDepth 100000 in
theorem eqOc (a b : Oc) (w : World) : (Op.equal 142 a.val b.val).run Tryz.prog w = .ok (decide (a = b)) w:=by
 show (Op.equalIn 10000 142 a.val b.val).run Tryz.prog w = _
 have u3:=Tryz.underlying3
 have a3:=Tryz.isAgg3
 have z3:=Tryz.sizeOf3
 have a5:=Tryz.isAgg24
 have z5:=Tryz.sizeOf24
 have hS : Tryz.prog.underlying 142 = some (.struct (Tryz.prog.fieldsOf 142)):=by kernel_rfl
 rw [show (10000 : Nat) = 9999 + 1 from rfl,run_equalIn_agg w 9999 142 _ _ hS (by kernel_rfl)]
 have e6:=fun w => eqNm a.value b.value w 9997
 simp only [Program.fieldsOf,Tryz.underlying142]
 go_simp
 rw [ite_last]
 iterate 2 rw [ite_ok w rfl]
 refine ite_ok w ?_
 cases a; cases b; simp
set_option maxRecDepth 100000 in
theorem checkNm2 (b : Bool) (d : Nat) (k : Nm) (w : World) : (Instr.checkKey b (d + 2) 24 k.val).run Tryz.prog w = .ok () w:=by
 have a3:=Tryz.isAgg5
 have z3:=Tryz.sizeOf5
 have hi:=fun n w => check_byte b d n w
 rw [Instr.checkKey]
 simp only [Sem.run_bind,run_underlying Tryz.underlying24,Result.andThen_ok]
 simp only [Std.Legacy.Range.forIn_eq_forIn_range',Std.Legacy.Range.size,Nat.sub_zero,Nat.add_sub_cancel,Nat.div_one,List.range'_succ,List.range'_zero,List.forIn_cons,List.forIn_nil]
 go_simp
set_option maxRecDepth 100000 in
theorem checkOc (b : Bool) (k : Oc) (w : World) : (Instr.checkKey b 10000 142 k.val).run Tryz.prog w = .ok () w:=by
 have a3:=Tryz.isAgg3
 have z3:=Tryz.sizeOf3
 have hi:=fun n w => check_int b 9998 n w
 have a5:=Tryz.isAgg24
 have z5:=Tryz.sizeOf24
 have e6:=fun w => checkNm2 b 9997 k.value w
 rw [Instr.checkKey]
 simp only [Sem.run_bind,run_underlying Tryz.underlying142,Result.andThen_ok]
 go_simp
theorem keyOc : KeyOk Tryz.prog 142 Oc.val where
 desc:=⟨_,Tryz.underlying142,fun _ _ => rfl⟩
 check:=checkOc
 eq:=eqOc
 bits k:=bits_agg 9999 _ (by intro v hv; simp at hv; rcases hv with rfl | rfl | rfl | rfl | rfl | rfl | rfl | rfl | rfl | rfl | rfl <;> simp [Instr.sameBits])
attribute [local go_sem ↓] Go.wp_at_zero Go.wp_at_succ loadNm loadVt loadSg loadEv loadOc
attribute [local go_sem] runNm runVt runSg runEv runOc pickRow_some rowAt_drew rowAt_drewN
def befO (a b : Oc) : Bool:=if a.round ≠ b.round then decide (a.round < b.round) else if a.choice ≠ b.choice then decide (a.choice < b.choice) else lessN a.value b.value
set_option maxRecDepth 100000 in
set_option maxHeartbeats 4000000 in
theorem before_any (a b : Oc) (w : World) : Calls Tryz.prog 118 #[a.val,b.val] w (BoolPost w (befO a b)):=by
 have hA : Blk ((w.alloc (Obj.cells a.cells 142)).alloc (Obj.cells b.cells 142)) w.heap.size 142 a.cells:=(Blk.new w _ _).alloc _
 have hB : Blk ((w.alloc (Obj.cells a.cells 142)).alloc (Obj.cells b.cells 142)) (w.heap.size + 1) 142 b.cells:=by
  have:=Blk.new (w.alloc (Obj.cells a.cells 142)) 142 b.cells
  simpa using this
 obtain ⟨W,hW⟩ : ∃ W,W = (w.alloc (Obj.cells a.cells 142)).alloc (Obj.cells b.cells 142):=⟨_,rfl⟩
 have hbW : Below w.heap.size w W:=by rw [hW]; exact ((Below.refl _ _).alloc (Nat.le_refl _) _).alloc (by simp) _
 rw [← hW] at hA hB
 have x0:=a.row_value hA
 have y0:=b.row_value hB
 have x1 : W.cell? ⟨w.heap.size,1,none⟩ = some (I a.round):=hA.cell 1
 have x2 : W.cell? ⟨w.heap.size,2,none⟩ = some (I a.choice):=hA.cell 2
 have y1 : W.cell? ⟨w.heap.size + 1,1,none⟩ = some (I b.round):=hB.cell 1
 have y2 : W.cell? ⟨w.heap.size + 1,2,none⟩ = some (I b.choice):=hB.cell 2
 have HW:=Lib.hid hW
 obtain ⟨r,hr⟩ : ∃ r,r = befO a b:=⟨_,rfl⟩
 rw [← hr]
 have HL:=Lib.hid (fun V => hless_any a.value b.value V)
 clear hA hB hW
 by_cases h1 : a.round = b.round
 ·by_cases h2 : a.choice = b.choice
  ·have hr' : r = lessN a.value b.value:=by rw [hr]; unfold befO; rw [if_neg (fun h => h h1),if_neg (fun h => h h2)]
   have n1 : (a.round != b.round) = false:=by rw [h1]; exact bne_self_eq_false _
   have n2 : (a.choice != b.choice) = false:=by rw [h2]; exact bne_self_eq_false _
   rw [← hr'] at HL
   clear hr hr' h1 h2
   go_enter Tryz.func118,Tryz.ntmps118
   go_upto_region 1 with fail
   simp only [← HW.out]
   go_wp2_with fail
   refine (HL.out _).mono ?_
   rintro en w2 ⟨rfl,hb2⟩
   go_wp2
   go_ret
   exact ⟨rfl,hbW.trans (hb2.mono hbW.size)⟩
  ·have hr' : r = decide (a.choice < b.choice):=by rw [hr]; unfold befO; rw [if_neg (fun h => h h1),if_pos h2]
   have n1 : (a.round != b.round) = false:=by rw [h1]; exact bne_self_eq_false _
   have n2 : (a.choice != b.choice) = true:=by simpa using h2
   have HR:=Lib.hid hr'
   clear hr hr' h1 h2
   go_enter Tryz.func118,Tryz.ntmps118
   go_upto_region 1 with fail
   simp only [← HW.out]
   go_wp2
   go_ret
   exact ⟨by rw [HR.out]; rfl,hbW⟩
 ·have hr' : r = decide (a.round < b.round):=by rw [hr]; unfold befO; rw [if_pos h1]
  have n1 : (a.round != b.round) = true:=by simpa using h1
  have HR:=Lib.hid hr'
  clear hr hr' h1
  go_enter Tryz.func118,Tryz.ntmps118
  go_upto_region 1 with fail
  simp only [← HW.out]
  go_wp2
  go_ret
  exact ⟨by rw [HR.out]; rfl,hbW⟩
end
end Go.Proofs.YtadllffeoibelaaGreat
