/-
  What these parts of the proof come to, functions walked and plain laws: StP, StM, St1. No condition.
-/
import Derived.Test.YtadllffeoibelaaGreatS1
import Derived.Lib.ReflectliteSwap
import Derived.Lib.Hide
namespace Go.Proofs.YtadllffeoibelaaGreat
section

section
variable {α : Type}
def seg (l : List α) (s e : Nat) : List α:=(l.take e).drop s
def swapL (l : List α) (i j : Nat) : List α:=match l[i]?,l[j]? with
 | some x,some y => (l.set i y).set j x
 | _,_ => l
theorem swapL_length (l : List α) (i j : Nat) : (swapL l i j).length = l.length:=by
 unfold swapL; split <;> simp
theorem swapL_two (P M S : List α) (x y : α) : swapL (P ++ x :: (M ++ y :: S)) P.length (P.length + 1 + M.length) = P ++ y :: (M ++ x :: S):=by
 have h1 : (P ++ x :: (M ++ y :: S))[P.length]? = some x:=by simp
 have h2 : (P ++ x :: (M ++ y :: S))[P.length + 1 + M.length]? = some y:=by
  rw [List.getElem?_append_right (by omega),show P.length + 1 + M.length - P.length = M.length + 1 from by omega]
  simp
 unfold swapL
 rw [h1,h2]
 show (List.set (List.set _ _ _) _ _) = _
 rw [List.set_append_right _ _ (Nat.le_refl _),Nat.sub_self,List.set_cons_zero,List.set_append_right _ _ (by omega),show P.length + 1 + M.length - P.length = M.length + 1 from by omega,List.set_cons_succ,
  List.set_append_right _ _ (Nat.le_refl _),Nat.sub_self,List.set_cons_zero]
theorem swapL_comm (l : List α) (i j : Nat) : swapL l i j = swapL l j i:=by
 unfold swapL
 rcases hi : l[i]? with _ | x <;> rcases hj : l[j]? with _ | y <;> simp only []
 by_cases h : i = j
 ·subst h; rw [hi] at hj; cases hj; rfl
 ·rw [List.set_comm _ _ h]
theorem swapL_two' (P M S : List α) (x y : α) : swapL (P ++ x :: (M ++ y :: S)) (P.length + 1 + M.length) P.length = P ++ y :: (M ++ x :: S):=by
 rw [swapL_comm,swapL_two]
theorem swapL_next (P S : List α) (x y : α) : swapL (P ++ x :: y :: S) P.length (P.length + 1) = P ++ y :: x :: S:=swapL_two P [] S x y
theorem swapL_prev (P S : List α) (x y : α) : swapL (P ++ x :: y :: S) (P.length + 1) P.length = P ++ y :: x :: S:=swapL_two' P [] S x y
structure Kept (l l' : List α) (a b : Nat) : Prop where
 pre : l'.take a = l.take a
 suf : l'.drop b = l.drop b
 perm : l'.Perm l
theorem Kept.refl (l : List α) (a b : Nat) : Kept l l a b:=⟨rfl,rfl,List.Perm.refl _⟩
theorem Kept.len {l l' : List α} {a b : Nat} (h : Kept l l' a b) : l'.length = l.length:=h.perm.length_eq
theorem Kept.wider {l l' : List α} {a b a' b' : Nat} (h : Kept l l' a b) (ha : a'≤a) (hb : b≤b') : Kept l l' a' b':=by
 refine ⟨?_,?_,h.perm⟩
 ·have:=congrArg (List.take a') h.pre
  rwa [List.take_take,List.take_take,Nat.min_eq_left ha] at this
 ·have:=congrArg (List.drop (b' - b)) h.suf
  rwa [List.drop_drop,List.drop_drop,Nat.add_sub_cancel' hb] at this
theorem Kept.trans {l l' l'' : List α} {a b : Nat} (h : Kept l l' a b) (h' : Kept l' l'' a b) : Kept l l'' a b:=⟨h'.pre.trans h.pre,h'.suf.trans h.suf,h'.perm.trans h.perm⟩
theorem Kept.seg_lo {l l' : List α} {a b s e : Nat} (h : Kept l l' a b) (he : e≤a) : seg l' s e = seg l s e:=by
 unfold seg
 have:=congrArg (List.take e) h.pre
 rw [List.take_take,List.take_take,Nat.min_eq_left he] at this
 rw [this]
theorem Kept.seg_hi {l l' : List α} {a b s e : Nat} (h : Kept l l' a b) (hs : b≤s) : seg l' s e = seg l s e:=by
 unfold seg
 rw [List.drop_take,List.drop_take]
 have:=congrArg (List.drop (s - b)) h.suf
 rw [List.drop_drop,List.drop_drop,Nat.add_sub_cancel' hs] at this
 rw [this]
theorem kept_of {P X X' S : List α} {a b : Nat} (ha : P.length = a) (hb : P.length + X.length = b) (hp : X'.Perm X) : Kept (P ++ (X ++ S)) (P ++ (X' ++ S)) a b:=by
 subst ha; subst hb
 refine ⟨by simp,?_,(hp.append_right S).append_left P⟩
 have h1 : List.drop (P.length + X.length) (P ++ (X ++ S)) = S:=by rw [← List.drop_drop,List.drop_left,List.drop_left]
 have h2 : List.drop (P.length + X.length) (P ++ (X' ++ S)) = S:=by rw [← List.drop_drop,List.drop_left,← hp.length_eq,List.drop_left]
 rw [h1,h2]
theorem seg_mid {P X S : List α} {a b : Nat} (ha : P.length = a) (hb : P.length + X.length = b) : seg (P ++ (X ++ S)) a b = X:=by
 subst ha; subst hb
 unfold seg
 rw [← List.append_assoc,List.take_append_of_le_length (by simp),List.take_of_length_le (by simp),List.drop_left]
theorem seg_cut (l : List α) {a b : Nat} (hab : a≤b) (hb : b≤l.length) : l = l.take a ++ (seg l a b ++ l.drop b)∧(l.take a).length = a∧(l.take a).length + (seg l a b).length = b:=by
 refine ⟨?_,by rw [List.length_take]; omega,by unfold seg; rw [List.length_drop,List.length_take,List.length_take]; omega⟩
 unfold seg
 have h1 : l.take b = (l.take b).take a ++ (l.take b).drop a:=(List.take_append_drop _ _).symm
 rw [List.take_take,Nat.min_eq_left hab] at h1
 rw [← List.append_assoc,← h1,List.take_append_drop]
theorem seg_split (l : List α) {a m b : Nat} (ham : a≤m) (hmb : m≤b) : seg l a b = seg l a m ++ seg l m b:=by
 unfold seg
 rw [List.drop_take,List.drop_take,List.drop_take,show b - a = (m - a) + (b - m) from by omega,List.take_add,List.drop_drop,Nat.add_sub_cancel' ham]
theorem seg_get (l : List α) {a b i : Nat} (hi : a + i < b) : (seg l a b)[i]? = l[a + i]?:=by
 unfold seg
 rw [List.getElem?_drop,List.getElem?_take,if_pos hi]
theorem seg_len (l : List α) {a b : Nat} (hb : b≤l.length) : (seg l a b).length = b - a:=by
 unfold seg; rw [List.length_drop,List.length_take,Nat.min_eq_left hb]
theorem seg_empty (l : List α) {a b : Nat} (h : l.length≤a∨b≤a) : seg l a b = []:=by
 unfold seg
 apply List.drop_eq_nil_of_le
 rw [List.length_take]; omega
theorem seg_beyond (l : List α) {a b : Nat} (h : l.length≤b) : seg l a b = seg l a l.length:=by
 unfold seg
 rw [List.take_of_length_le h,List.take_length]
end
structure Ord {α : Type} (lt : α→α→Bool) : Prop where
 asymm : ∀ x y,lt x y = true→lt y x = false
 trans : ∀ x y z,lt y x = false→lt z y = false→lt z x = false
section
variable {α : Type} {lt : α→α→Bool}
def Asc (lt : α→α→Bool) (l : List α) : Prop:=l.Pairwise fun x y => lt y x = false
theorem Ord.irrefl (h : Ord lt) (x : α) : lt x x = false:=by
 cases hx : lt x x with
 | false => rfl
 | true => have:=h.asymm x x hx; rw [hx] at this; cases this
theorem Asc.nil : Asc lt []:=List.Pairwise.nil
theorem Asc.one (x : α) : Asc lt [x]:=List.pairwise_singleton _ _
theorem asc_append {a b : List α} : Asc lt (a ++ b) ↔ Asc lt a∧Asc lt b∧∀ x ∈ a,∀ y ∈ b,lt y x = false:=List.pairwise_append
theorem Asc.get {l : List α} (h : Asc lt l) {i j : Nat} {x y : α} (hij : i < j) (hx : l[i]? = some x) (hy : l[j]? = some y) : lt y x = false:=by
 obtain ⟨hi,rfl⟩:=List.getElem?_eq_some_iff.1 hx
 obtain ⟨hj,rfl⟩:=List.getElem?_eq_some_iff.1 hy
 exact List.pairwise_iff_getElem.1 h i j hi hj hij
theorem Asc.last_le (ho : Ord lt) {l : List α} {x y : α} (h : Asc lt (l ++ [x])) (hxy : lt y x = false) : ∀ z ∈ l ++ [x],lt y z = false:=by
 intro z hz
 rcases List.mem_append.1 hz with hz | hz
 ·exact ho.trans z x y ((asc_append.1 h).2.2 z hz x (by simp)) hxy
 ·rw [List.mem_singleton.1 hz]; exact hxy
theorem Asc.upto (ho : Ord lt) {l : List α} {i : Nat} {x y : α} (h : Asc lt l) (hx : l[i]? = some x) (hxy : lt y x = false) : ∀ z ∈ l.take (i + 1),lt y z = false:=by
 intro z hz
 obtain ⟨k,hk⟩:=List.mem_iff_getElem?.1 hz
 rw [List.getElem?_take] at hk
 split at hk
 ·rename_i hki
  rcases Nat.lt_or_ge k i with hlt | hge
  ·exact ho.trans z x y (h.get hlt hk hx) hxy
  ·obtain rfl : k = i:=by omega
   rw [hk] at hx; cases hx; exact hxy
 ·cases hk
theorem Asc.since (ho : Ord lt) {l : List α} {i : Nat} {x y : α} (h : Asc lt l) (hx : l[i]? = some x) (hxy : lt x y = false) : ∀ z ∈ l.drop i,lt z y = false:=by
 intro z hz
 obtain ⟨k,hk⟩:=List.mem_iff_getElem?.1 hz
 rw [List.getElem?_drop] at hk
 rcases Nat.eq_zero_or_pos k with h0 | h0
 ·subst h0
  rw [Nat.add_zero,hx] at hk; cases hk; exact hxy
 ·exact ho.trans y x z hxy (h.get (by omega) hx hk)
theorem Asc.take {l : List α} (h : Asc lt l) (k : Nat) : Asc lt (l.take k):=List.Pairwise.sublist (List.take_sublist k l) h
theorem Asc.drop {l : List α} (h : Asc lt l) (k : Nat) : Asc lt (l.drop k):=List.Pairwise.sublist (List.drop_sublist k l) h
theorem asc_insert {a b : List α} {x : α} (h : Asc lt (a ++ b)) (ha : ∀ z ∈ a,lt x z = false) (hb : ∀ z ∈ b,lt z x = false) : Asc lt (a ++ x :: b):=by
 obtain ⟨h1,h2,h3⟩:=asc_append.1 h
 refine asc_append.2 ⟨h1,List.pairwise_cons.2 ⟨hb,h2⟩,fun z hz y hy => ?_⟩
 rcases List.mem_cons.1 hy with rfl | hy
 ·exact ha z hz
 ·exact h3 z hz y hy
def Chunks (lt : α→α→Bool) (bs : Nat) (l : List α) : Prop:=∀ t,Asc lt (seg l (t * bs) ((t + 1) * bs))
theorem Chunks.all {bs : Nat} {l : List α} (h : Chunks lt bs l) (hb : l.length≤bs) : Asc lt l:=by
 have:=h 0
 rw [Nat.zero_mul,Nat.zero_add,Nat.one_mul,seg_beyond l hb] at this
 unfold seg at this
 simpa using this
end
section
variable {α : Type} {lt : α→α→Bool}
theorem Kept.seg_perm {l l' : List α} {a b : Nat} (h : Kept l l' a b) (hab : a≤b) (hb : b≤l.length) : (seg l' a b).Perm (seg l a b):=by
 obtain ⟨e,_,_⟩:=seg_cut l hab hb
 obtain ⟨e',_,_⟩:=seg_cut l' hab (by rw [h.len]; exact hb)
 have hp:=h.perm
 rw [e,e',h.pre,h.suf] at hp
 exact (List.perm_append_right_iff _).1 ((List.perm_append_left_iff _).1 hp)
theorem sym_done {l l1 l2 l3 : List α} {a s m mid e b : Nat} (has : a≤s) (hsm : s≤m) (hme : m≤e) (heb : e≤b) (hbl : b≤l.length) (hmid : mid + m = s + e)
  (hX : Asc lt (seg l a m)) (hY : Asc lt (seg l m b)) (F1 : ∀ x ∈ seg l a s,∀ y ∈ seg l e b,lt y x = false) (F2 : ∀ x ∈ seg l m e,∀ y ∈ seg l s m,lt y x = false)
  (k1 : Kept l l1 s e) (q1 : seg l1 s mid = seg l m e) (q2 : seg l1 mid e = seg l s m) (k2 : Kept l1 l2 a mid) (z2 : Asc lt (seg l2 a mid)) (k3 : Kept l2 l3 mid b) (z3 : Asc lt (seg l3 mid b)) :
  Kept l l3 a b∧Asc lt (seg l3 a b):=by
 have b1 : s≤mid:=by omega
 have b2 : mid≤e:=by omega
 refine ⟨((k1.wider has heb).trans (k2.wider (Nat.le_refl _) (by omega))).trans (k3.wider (by omega) (Nat.le_refl _)),?_⟩
 have p1 : (seg l3 a mid).Perm (seg l a s ++ seg l m e):=by
  rw [k3.seg_lo (Nat.le_refl _)]
  refine (k2.seg_perm (by omega) (by rw [k1.len]; omega)).trans ?_
  rw [seg_split l1 has b1,k1.seg_lo (Nat.le_refl _),q1]
 have p2 : (seg l3 mid b).Perm (seg l s m ++ seg l e b):=by
  refine (k3.seg_perm (by omega) (by rw [k2.len,k1.len]; omega)).trans ?_
  rw [k2.seg_hi (Nat.le_refl _),seg_split l1 b2 heb,q2,k1.seg_hi (Nat.le_refl _)]
 rw [seg_split l has hsm] at hX
 rw [seg_split l hme heb] at hY
 rw [seg_split l3 (show a≤mid by omega) (show mid≤b by omega)]
 refine asc_append.2 ⟨by rw [k3.seg_lo (Nat.le_refl _)]; exact z2,z3,fun x hx y hy => ?_⟩
 rcases List.mem_append.1 (p1.mem_iff.1 hx) with hx | hx <;> rcases List.mem_append.1 (p2.mem_iff.1 hy) with hy | hy
 ·exact (asc_append.1 hX).2.2 x hx y hy
 ·exact F1 x hx y hy
 ·exact F2 x hx y hy
 ·exact (asc_append.1 hY).2.2 x hx y hy
theorem sym_F1 (ho : Ord lt) {l : List α} {a s m e b : Nat} {x y : α} (hm : s < m + 1) (hme : m≤e) (hX : Asc lt (seg l a m)) (hY : Asc lt (seg l m b)) (has : a + 1≤s) (heb : e < b)
  (hx : l[s - 1]? = some x) (hy : l[e]? = some y) (h : lt y x = false) : ∀ u ∈ seg l a s,∀ v ∈ seg l e b,lt v u = false:=by
 intro u hu v hv
 have e1 : seg l a s = (seg l a m).take (s - 1 - a + 1):=by
  unfold seg; rw [List.drop_take,List.drop_take,List.take_take]; congr 1; omega
 have e2 : seg l e b = (seg l m b).drop (e - m):=by
  unfold seg; rw [List.drop_drop]; congr 1; omega
 rw [e1] at hu
 rw [e2] at hv
 have h1:=hX.upto ho (i:=s - 1 - a) (x:=x) (y:=y) (by rw [seg_get l (by omega),← hx]; congr 1; omega) h u hu
 have h2:=hY.since ho (i:=e - m) (x:=y) (y:=y) (by rw [seg_get l (by omega),← hy]; congr 1; omega) (ho.irrefl y) v hv
 exact ho.trans u y v h1 h2
theorem sym_F2 (ho : Ord lt) {l : List α} {a s m e b : Nat} {x y : α} (hsm : s < m) (hme : m < e) (has : a≤s) (heb : e≤b) (hX : Asc lt (seg l a m)) (hY : Asc lt (seg l m b))
  (hx : l[s]? = some x) (hy : l[e - 1]? = some y) (h : lt y x = true) : ∀ u ∈ seg l m e,∀ v ∈ seg l s m,lt v u = false:=by
 intro u hu v hv
 have e1 : seg l m e = (seg l m b).take (e - 1 - m + 1):=by
  unfold seg; rw [List.drop_take,List.drop_take,List.take_take]; congr 1; omega
 have e2 : seg l s m = (seg l a m).drop (s - a):=by
  unfold seg; rw [List.drop_drop]; congr 1; omega
 rw [e1] at hu
 rw [e2] at hv
 have h1:=hY.upto ho (i:=e - 1 - m) (x:=y) (y:=y) (by rw [seg_get l (by omega),← hy]; congr 1; omega) (ho.irrefl y) u hu
 have h2:=hX.since ho (i:=s - a) (x:=x) (y:=y) (by rw [seg_get l (by omega),← hx]; congr 1; omega) (ho.asymm _ _ h) v hv
 exact ho.trans u y v h1 h2
theorem one_front (ho : Ord lt) {P S Y : List α} {x : α} {a b i : Nat} (ha : P.length = a) (hb : a + 1 + Y.length = b) (hY : Asc lt Y) (hi : i≤Y.length)
  (h1 : i = 0∨∃ u,Y[i - 1]? = some u∧lt u x = true) (h2 : i = Y.length∨∃ u,Y[i]? = some u∧lt u x = false) :
  Kept (P ++ (x :: Y ++ S)) (P ++ ((Y.take i ++ x :: Y.drop i) ++ S)) a b∧Asc lt (seg (P ++ ((Y.take i ++ x :: Y.drop i) ++ S)) a b):=by
 have hp : (Y.take i ++ x :: Y.drop i).Perm (x :: Y):=by
  refine List.perm_middle.trans ?_
  rw [List.take_append_drop]
 refine ⟨kept_of ha (by rw [ha,List.length_cons]; omega) hp,?_⟩
 rw [seg_mid ha (by rw [ha,hp.length_eq,List.length_cons]; omega)]
 refine asc_insert (by rw [List.take_append_drop]; exact hY) ?_ ?_
 ·rcases h1 with rfl | ⟨u,hu,hlt⟩
  ·intro z hz; simp at hz
  ·rcases Nat.eq_zero_or_pos i with h0 | h0
   ·subst h0; intro z hz; simp at hz
   ·have:=hY.upto ho hu (ho.asymm _ _ hlt)
    rwa [show i - 1 + 1 = i from by omega] at this
 ·rcases h2 with rfl | ⟨u,hu,hlt⟩
  ·intro z hz; simp at hz
  ·exact hY.since ho hu hlt
theorem one_back (ho : Ord lt) {P S X : List α} {y : α} {a b i : Nat} (ha : P.length = a) (hb : a + X.length + 1 = b) (hX : Asc lt X) (hi : i≤X.length)
  (h1 : i = 0∨∃ u,X[i - 1]? = some u∧lt y u = false) (h2 : i = X.length∨∃ u,X[i]? = some u∧lt y u = true) :
  Kept (P ++ ((X ++ [y]) ++ S)) (P ++ ((X.take i ++ y :: X.drop i) ++ S)) a b∧Asc lt (seg (P ++ ((X.take i ++ y :: X.drop i) ++ S)) a b):=by
 have hp : (X.take i ++ y :: X.drop i).Perm (X ++ [y]):=by
  refine List.perm_middle.trans ?_
  rw [List.take_append_drop]
  exact (List.perm_append_singleton y X).symm
 refine ⟨kept_of ha (by rw [ha,List.length_append,List.length_singleton]; omega) hp,?_⟩
 rw [seg_mid ha (by rw [ha,hp.length_eq,List.length_append,List.length_singleton]; omega)]
 refine asc_insert (by rw [List.take_append_drop]; exact hX) ?_ ?_
 ·rcases h1 with rfl | ⟨u,hu,hlt⟩
  ·intro z hz; simp at hz
  ·rcases Nat.eq_zero_or_pos i with h0 | h0
   ·subst h0; intro z hz; simp at hz
   ·have:=hX.upto ho hu hlt
    rwa [show i - 1 + 1 = i from by omega] at this
 ·rcases h2 with rfl | ⟨u,hu,hlt⟩
  ·intro z hz; simp at hz
  ·exact hX.since ho hu (ho.asymm _ _ hlt)
theorem Chunks.twice {bs k : Nat} {l : List α} (hlo : ∀ t,t < k→Asc lt (seg l (t * (2 * bs)) ((t + 1) * (2 * bs)))) (hlast : Asc lt (seg l (k * (2 * bs)) ((k + 1) * (2 * bs)))) (hend : l.length < (k + 1) * (2 * bs)) : Chunks lt (2 * bs) l:=by
 intro t
 rcases Nat.lt_trichotomy t k with h | h | h
 ·exact hlo t h
 ·subst h; exact hlast
 ·have h2 : (k + 1) * (2 * bs)≤t * (2 * bs):=Nat.mul_le_mul_right _ h
  rw [seg_empty l (.inl (by omega))]
  exact Asc.nil
end
end
section
open Go.RowKit
section
variable {α : Type} {c : α→List Value} {t : TypeId} {w0 w w' : World} {g : Nat} {l l' : List α}
structure Row (c : α→List Value) (t : TypeId) (w0 : World) (g : Nat) (l : List α) (w : World) : Prop where
 blk : Blk w g t (l.flatMap c).toArray
 kept : w0.grownBy w (some g)
theorem Row.self (h : Blk w g t (l.flatMap c).toArray) : Row c t w g l w:=⟨h,one_refl w g⟩
theorem Row.trans (h : Row c t w0 g l w) (h' : Row c t w g l' w') : Row c t w0 g l' w':=⟨h'.blk,h.kept.trans h'.kept⟩
theorem Row.alloc (h : Row c t w0 g l w) (o : Obj) : Row c t w0 g l (w.alloc o):=⟨h.blk.alloc o,one_alloc h.kept o⟩
theorem Row.below (h : Row c t w0 g l w) (hb : Below w.heap.size w w') : Row c t w0 g l w' :=
 ⟨h.blk.below hb h.blk.lt,h.kept.trans ⟨hb.os,hb.tape,hb.output,hb.size,fun i hi _ => hb.block i hi⟩⟩
theorem grown_alloc (w : World) (o : Obj) (row : Option Nat) : w.grownBy (w.alloc o) row:=⟨rfl,rfl,rfl,by simp,fun i hi _ => Below.heap_alloc w o i hi⟩
theorem Row.off {o : Obj} (h : Row c t (w.alloc o) g l' w') : Row c t w g l' w':=⟨h.blk,(grown_alloc w o (some g)).trans h.kept⟩
theorem Row.box {k : Nat} {tb : TypeId} {cs : Array Value} (h : Row c t w0 g l w) (hB : Blk w0 k tb cs) (hk : k ≠ g) : Blk w k tb cs:=hB.kept h.kept (by simpa using hk)
def LessOn (c : α→List Value) (t : TypeId) (w0 : World) (g : Nat) (l0 : List α) (lt : α→α→Bool) (f : Nat) (lb : Array Value) : Prop :=
 ∀ (W : World) (l : List α) (i j : Nat) (x y : α),Row c t w0 g l W→l.Perm l0→l[i]? = some x→l[j]? = some y →
  Calls Tryz.prog f (#[.int .i64 (i : Int),.int .i64 (j : Int)] ++ lb) W fun e w' => e = .returned (.bool (lt x y))∧Below W.heap.size W w'
def SwapOn (c : α→List Value) (t : TypeId) (w0 : World) (g n : Nat) (f : Nat) (sb : Array Value) : Prop :=
 ∀ (W : World) (l : List α) (i j : Nat),Row c t w0 g l W→l.length = n→i < n→j < n→i ≠ j →
  ∃ W',(callFunc f (#[.int .i64 (i : Int),.int .i64 (j : Int)] ++ sb)).run Tryz.prog W = .ok (.value (.tuple #[])) W'∧Row c t W g (swapL l i j) W'
theorem LessOn.later {l0 : List α} {lt : α→α→Bool} {f : Nat} {lb : Array Value} (h : LessOn c t w0 g l0 lt f lb) (hw : w0.grownBy w (some g)) : LessOn c t w g l0 lt f lb :=
 fun W l i j x y hr hp hx hy => h W l i j x y ⟨hr.blk,hw.trans hr.kept⟩ hp hx hy
end
theorem putCells_blk (g t : Nat) : ∀ (vs : List Value) (s : Nat) (w : World) (cs : List Value),Blk w g t cs.toArray→s + vs.length≤cs.length →
  Blk (w.setCells g s vs) g t (cs.take s ++ vs ++ cs.drop (s + vs.length)).toArray∧w.grownBy (w.setCells g s vs) (some g)
 | [],s,w,cs,h,_ => by
  refine ⟨?_,one_refl w g⟩
  rw [World.setCells,List.append_nil,List.length_nil,Nat.add_zero,List.take_append_drop]
  exact h
 | v :: r,s,w,cs,h,hl => by
  rw [List.length_cons] at hl
  have h1 : Blk (w.setCell ⟨g,s,none⟩ v) g t (cs.set s v).toArray:=by
   have:=h.put s v
   simpa using this
  obtain ⟨h2,h3⟩:=putCells_blk g t r (s + 1) _ _ h1 (by rw [List.length_set]; omega)
  rw [World.setCells]
  refine ⟨?_,(one_put (one_refl w g) rfl v).trans h3⟩
  have e : List.take s cs ++ v :: r ++ List.drop (s + (v :: r).length) cs = List.take (s + 1) (cs.set s v) ++ r ++ List.drop (s + 1 + r.length) (cs.set s v):=by
   rw [List.drop_set_of_lt (by omega),List.length_cons,List.take_set,List.take_succ_eq_append_getElem (by omega),List.set_append_right _ _ (by rw [List.length_take]; omega)]
   simp [List.length_take,Nat.min_eq_left (show s≤cs.length by omega)]
   congr 1; omega
  rw [e]
  exact h2
theorem flat_set {α : Type} (f : α→List Value) (m : Nat) (l : List α) (hm : ∀ x ∈ l,(f x).length = m) (i : Nat) (x : α) (hi : i < l.length) :
  (l.set i x).flatMap f = (l.flatMap f).take (i * m) ++ f x ++ (l.flatMap f).drop (i * m + m):=by
 have e1 : (l.flatMap f).take (i * m) = (l.take i).flatMap f:=by
  have e : l.flatMap f = (l.take i).flatMap f ++ (l.drop i).flatMap f:=by rw [← List.flatMap_append,List.take_append_drop]
  have hl : ((l.take i).flatMap f).length = i * m:=by
   rw [flat_length f m _ (fun z hz => hm z (List.mem_of_mem_take hz)),List.length_take,Nat.min_eq_left (by omega)]
  rw [e,← hl,List.take_left]
 have e2 : (l.flatMap f).drop (i * m + m) = (l.drop (i + 1)).flatMap f:=by
  have e : l.flatMap f = (l.take (i + 1)).flatMap f ++ (l.drop (i + 1)).flatMap f:=by rw [← List.flatMap_append,List.take_append_drop]
  have hl : ((l.take (i + 1)).flatMap f).length = i * m + m:=by
   rw [flat_length f m _ (fun z hz => hm z (List.mem_of_mem_take hz)),List.length_take,Nat.min_eq_left (by omega),Nat.succ_mul]
  rw [e,← hl,List.drop_left]
 rw [e1,e2,List.set_eq_take_append_cons_drop,if_pos hi]
 simp
theorem swapOn_lit {α : Type} (c : α→List Value) (m : Nat) (t e : TypeId) (w0 : World) (g n cap f : Nat) (gS : Bool) (hx : ∀ args W,(callFunc f args).run Tryz.prog W = ((Extern.ReflectliteSwapper.swap gS args).run Tryz.prog W).andThen fun v w' => .ok (.value v) w')
  (ie : TypeInfo) (hie : Tryz.prog.info? e = some ie) (hsz : ie.size = m) (hagg : ∀ w,(isAgg e).run Tryz.prog w = .ok true w) (hm : ∀ x,(c x).length = m) (h1 : ∀ x,∀ v ∈ c x,v.oneCell' = true) :
  SwapOn c t w0 g n f #[.slice (some ⟨g,0,none⟩) n cap,typeHandle Tryz.prog e]:=by
 intro W l i j hr hn hi hj _
 subst hsz
 obtain ⟨x,hx1⟩ : ∃ x,l[i]? = some x:=⟨_,List.getElem?_eq_getElem (by omega)⟩
 obtain ⟨y,hy1⟩ : ∃ y,l[j]? = some y:=⟨_,List.getElem?_eq_getElem (by omega)⟩
 have hlen : ∀ (l : List α),(l.flatMap c).length = l.length * ie.size:=fun l => flat_length c ie.size l (fun x _ => hm x)
 have cell : ∀ (k u : Nat) (z : α) (v : Value),l[k]? = some z→(c z)[u]? = some v→W.cell? ⟨g,0 + k * ie.size + u,none⟩ = some v:=by
  intro k u z v hz hv
  rw [hr.blk.cell,Nat.zero_add]
  have:=flat_get c ie.size l (fun x _ => hm x) k u z hz (by rw [← hm z]; exact (List.getElem?_eq_some_iff.1 hv).1)
  rw [List.getElem?_toArray,this,hv]
 have hrun:=Lib.run_swap_cells (P:=Tryz.prog) gS e ie hie hagg g 0 n cap i j hi hj (c x) (c y) (hm x) (hm y) (h1 x) (h1 y) W (fun u v hv => cell i u x v hx1 hv) (fun u v hv => cell j u y v hy1 hv)
  (fun u _ => hr.blk.frozen _) (fun u _ => hr.blk.frozen _)
 have bi : i * ie.size + ie.size≤l.length * ie.size:=by
  have:=Nat.mul_le_mul_right ie.size (show i + 1≤l.length by omega); rwa [Nat.succ_mul] at this
 have bj : j * ie.size + ie.size≤l.length * ie.size:=by
  have:=Nat.mul_le_mul_right ie.size (show j + 1≤l.length by omega); rwa [Nat.succ_mul] at this
 obtain ⟨b1,k1⟩:=putCells_blk g t (c y) (i * ie.size) W (l.flatMap c) hr.blk (by rw [hm,hlen]; exact bi)
 rw [hm,← flat_set c ie.size l (fun x _ => hm x) i y (by omega)] at b1
 obtain ⟨b2,k2⟩:=putCells_blk g t (c x) (j * ie.size) _ ((l.set i y).flatMap c) b1 (by rw [hm,hlen,List.length_set]; exact bj)
 rw [hm,← flat_set c ie.size _ (fun x _ => hm x) j x (by rw [List.length_set]; omega)] at b2
 refine ⟨_,?_,⟨?_,k1.trans k2⟩⟩
 ·rw [hx,show (#[Value.int .i64 (i : Int),Value.int .i64 (j : Int)] ++ #[Value.slice (some ⟨g,0,none⟩) n cap,typeHandle Tryz.prog e]) = #[.int .i64 i,.int .i64 j,.slice (some ⟨g,0,none⟩) n cap,typeHandle Tryz.prog e] from rfl,hrun,Nat.zero_add,Nat.zero_add]
  rfl
 ·unfold swapL
  rw [hx1,hy1]
  exact b2
end
section
open Go.RowKit
theorem swap_step {α : Type} {P X M Y S : List α} {k i : Nat} (hX : X.length = k) (hY : Y.length = k) (hi : i < k) :
  swapL (P ++ (Y.take i ++ (X.drop i ++ (M ++ (X.take i ++ (Y.drop i ++ S)))))) (P.length + i) (P.length + k + M.length + i) = P ++ (Y.take (i + 1) ++ (X.drop (i + 1) ++ (M ++ (X.take (i + 1) ++ (Y.drop (i + 1) ++ S))))):=by
 have hx : i < X.length:=by omega
 have hy : i < Y.length:=by omega
 rw [List.drop_eq_getElem_cons hx,List.drop_eq_getElem_cons hy,List.take_succ_eq_append_getElem hx,List.take_succ_eq_append_getElem hy]
 have h:=swapL_two (P ++ Y.take i) (X.drop (i + 1) ++ (M ++ X.take i)) (Y.drop (i + 1) ++ S) X[i] Y[i]
 have e1 : (P ++ Y.take i).length = P.length + i:=by rw [List.length_append,List.length_take]; omega
 have e2 : (P ++ Y.take i).length + 1 + (X.drop (i + 1) ++ (M ++ X.take i)).length = P.length + k + M.length + i:=by
  rw [e1]; simp only [List.length_append,List.length_drop,List.length_take]; omega
 rw [e2,e1] at h
 simp only [List.append_assoc,List.cons_append,List.nil_append] at h ⊢
 exact h
section
variable {α : Type} {c : α→List Value} {t : TypeId} {w0 : World} {g n f : Nat} {sb : Array Value}
set_option maxRecDepth 100000 in
set_option maxHeartbeats 1000000 in
theorem swapRange_any (lf : Value) (hsw : SwapOn c t w0 g n f sb) (a b k : Nat) (P X M Y S : List α) (w : World) (hrow : Row c t w0 g (P ++ (X ++ (M ++ (Y ++ S)))) w) (hn : (P ++ (X ++ (M ++ (Y ++ S)))).length = n) (hsmall : n≤1000000)
  (ha : P.length = a) (hX : X.length = k) (hY : Y.length = k) (hb : a + k + M.length = b) :
  Calls Tryz.prog 272 #[.agg #[lf,.func (.func f) #[] sb],.int .i64 (a : Int),.int .i64 (b : Int),.int .i64 (k : Int)] w fun e w' => e = .returned (.tuple #[])∧Row c t w g (P ++ (Y ++ (M ++ (X ++ S)))) w':=by
 have hbig : b + k≤n:=by
  simp only [List.length_append] at hn; omega
 have hab : a + k≤b:=by omega
 have HSw:=Lib.hid hsw; clear hsw
 have HRow:=Lib.hid hrow; clear hrow
 have HN:=Lib.hid hn; clear hn
 have HX:=Lib.hid hX; clear hX
 have HY:=Lib.hid hY; clear hY
 have HA:=Lib.hid ha; clear ha
 have HB:=Lib.hid hb; clear hb
 have hgw : g < w.heap.size:=HRow.out.blk.lt
 go_enter Tryz.func272,Tryz.ntmps272
 go_wp2
 go_loopw [8] (fun iv wr => ∃ i : Nat,iv = .int .i64 (i : Int)∧i≤k∧Row c t (w.alloc (.cells #[lf,.func (.func f) #[] sb] 190)) g (P ++ (Y.take i ++ (X.drop i ++ (M ++ (X.take i ++ (Y.drop i ++ S)))))) wr) (fun iv _ => k - (intOf iv).toNat)
 case atStart =>
  refine ⟨0,rfl,Nat.zero_le _,?_⟩
  have:=Row.self (HRow.out.blk.alloc (.cells #[lf,.func (.func f) #[] sb] 190))
  simpa using this
 case round =>
  obtain ⟨i,rfl,hik,hr⟩:=hrel
  have HR:=Lib.hid hr
  clear hr
  by_cases hi : i < k
  ·have c1 : wr.cell? ⟨w.heap.size,1,none⟩ = some (.func (.func f) #[] sb):=(HR.out.box (Blk.new w _ _) (by omega)).cell 1
   have hlen : (P ++ (Y.take i ++ (X.drop i ++ (M ++ (X.take i ++ (Y.drop i ++ S)))))).length = n:=by
    rw [← HN.out]
    have h1:=HX.out
    have h2:=HY.out
    simp only [List.length_append,List.length_take,List.length_drop]; omega
   obtain ⟨W',hrun,hrow'⟩:=HSw.out wr _ (a + i) (b + i) (HRow.out.trans (HR.out.off)) hlen (by omega) (by omega) (by omega)
   rw [show ((a + i : Nat) : Int) = (a : Int) + (i : Int) from by omega,show ((b + i : Nat) : Int) = (b : Int) + (i : Int) from by omega] at hrun
   have hs:=swap_step (P:=P) (X:=X) (M:=M) (Y:=Y) (S:=S) HX.out HY.out hi
   rw [HA.out,HB.out] at hs
   rw [hs] at hrow'
   have HRow':=Lib.hid (HR.out.trans hrow')
   clear hs hrow' hlen
   go_wp2
   go_roundw
   case rel => exact ⟨i + 1,by go_num,by omega,HRow'.out⟩
   case measure => simp [intOf]; omega
  ·obtain rfl : k = i:=by omega
   go_wp2
   go_end0
   refine ⟨rfl,?_⟩
   have h:=HR.out.off
   rw [List.take_of_length_le (Nat.le_of_eq HY.out),List.drop_eq_nil_of_le (Nat.le_of_eq HX.out),List.take_of_length_le (Nat.le_of_eq HX.out),List.drop_eq_nil_of_le (Nat.le_of_eq HY.out)] at h
   simpa using h
set_option maxRecDepth 100000 in
set_option maxHeartbeats 2000000 in
theorem rotate_any (lf : Value) (hsw : SwapOn c t w0 g n f sb) (a m b : Nat) (P X Y S : List α) (w : World) (hrow : Row c t w0 g (P ++ (X ++ (Y ++ S))) w) (hn : (P ++ (X ++ (Y ++ S))).length = n) (hsmall : n≤1000000)
  (ha : P.length = a) (hm : a + X.length = m) (hb : m + Y.length = b) (hX : 0 < X.length) (hY : 0 < Y.length) :
  Calls Tryz.prog 236 #[.agg #[lf,.func (.func f) #[] sb],.int .i64 (a : Int),.int .i64 (m : Int),.int .i64 (b : Int)] w fun e w' => e = .returned (.tuple #[])∧Row c t w g (P ++ (Y ++ (X ++ S))) w':=by
 have hbig : b≤n:=by
  simp only [List.length_append] at hn; omega
 have ham : a≤m:=by omega
 have hmb : m≤b:=by omega
 obtain ⟨T,hT⟩ : ∃ T,T = P ++ (Y ++ (X ++ S)):=⟨_,rfl⟩
 obtain ⟨l,hl⟩ : ∃ l,l = P ++ (X ++ (Y ++ S)):=⟨_,rfl⟩
 have hs0 : ∃ U X' Y' V : List α,((m : Int) - (a : Int)) = (X'.length : Int)∧((b : Int) - (m : Int)) = (Y'.length : Int)∧0 < X'.length∧0 < Y'.length∧U.length + X'.length = m∧(U ++ (X' ++ (Y' ++ V))).length = n∧l = U ++ (X' ++ (Y' ++ V))∧U ++ (Y' ++ (X' ++ V)) = T :=
  ⟨P,X,Y,S,by omega,by omega,hX,hY,by omega,hn,hl,hT.symm⟩
 rw [← hl] at hrow hn
 rw [← hT]
 have HSw:=Lib.hid hsw
 have HRow:=Lib.hid hrow
 have HS0:=Lib.hid hs0
 clear hsw hrow hs0 hn hl hT hX hY ha hm hb
 have hgw : g < w.heap.size:=HRow.out.blk.lt
 go_enter Tryz.func236,Tryz.ntmps236
 go_wp2
 go_loopw [8,9] (fun iv jv wr => ∃ (i j : Nat) (U X' Y' V : List α),iv = .int .i64 (i : Int)∧jv = .int .i64 (j : Int)∧X'.length = i∧Y'.length = j∧0 < i∧0 < j∧U.length + i = m∧(U ++ (X' ++ (Y' ++ V))).length = n∧Row c t (w.alloc (.cells #[lf,.func (.func f) #[] sb] 190)) g (U ++ (X' ++ (Y' ++ V))) wr∧U ++ (Y' ++ (X' ++ V)) = T) (fun iv jv _ => (intOf iv).toNat + (intOf jv).toNat)
 case atStart =>
  obtain ⟨U,X',Y',V,h1,h2,h3,h4,h5,h6,h7,h8⟩:=HS0.out
  refine ⟨X'.length,Y'.length,U,X',Y',V,by rw [h1],by rw [h2],rfl,rfl,h3,h4,h5,h6,?_,h8⟩
  rw [← h7]
  exact Row.self (HRow.out.blk.alloc (.cells #[lf,.func (.func f) #[] sb] 190))
 case round =>
  obtain ⟨i,j,U,X',Y',V,rfl,rfl,hX,hY,hi,hj,hU,hn,hr,hT⟩:=hrel
  have hjb : m + j≤n:=by
   simp only [List.length_append] at hn; omega
  have HB : Hid (Blk wr w.heap.size 190 #[lf,.func (.func f) #[] sb]):=hr.box (Blk.new w _ _) (by omega)
  have HR:=Lib.hid hr
  have HT:=Lib.hid hT
  have HXl:=Lib.hid hX
  have HYl:=Lib.hid hY
  have HN:=Lib.hid hn
  have HU:=Lib.hid hU
  have hiU : i≤m:=by omega
  clear hr hT hX hY hn hU
  have c0 : wr.cell? ⟨w.heap.size,0,none⟩ = some lf:=HB.out.cell 0
  have c1 : wr.cell? ⟨w.heap.size,1,none⟩ = some (.func (.func f) #[] sb):=HB.out.cell 1
  have k1 : (m : Int) - (i : Int) = ((m - i : Nat) : Int):=by omega
  rcases Nat.lt_trichotomy i j with hij | hij | hij
  ·have d1 : decide ((i : Int) = (j : Int)) = false:=by simp; omega
   have hsp:=List.take_append_drop (j - i) Y'
   have hc:=swapRange_any lf HSw.out (m - i) (m + j - i) i U X' (Y'.take (j - i)) (Y'.drop (j - i)) V wr
    (by rw [← List.append_assoc (Y'.take (j - i)),hsp]; exact HRow.out.trans HR.out.off) (by rw [← List.append_assoc (Y'.take (j - i)),hsp]; exact HN.out) hsmall
    (by have:=HU.out; omega) HXl.out (by rw [List.length_drop,HYl.out]; omega) (by rw [List.length_take,HYl.out]; omega)
   rw [show ((m + j - i : Nat) : Int) = (m : Int) + (j : Int) - (i : Int) from by omega,show ((m - i : Nat) : Int) = (m : Int) - (i : Int) from by omega] at hc
   have HC:=Lib.hid hc
   clear hc hsp k1
   go_wp2_with (go_at_call 272; refine HC.out.mono ?_; rintro en w2 ⟨rfl,hr2⟩)
   go_roundw
   case rel =>
    refine ⟨i,j - i,U,Y'.drop (j - i),Y'.take (j - i),X' ++ V,rfl,by go_num,by rw [List.length_drop,HYl.out]; omega,by rw [List.length_take,HYl.out]; omega,hi,by omega,HU.out,?_,?_,?_⟩
    ·have h:=HN.out
     have h2:=HYl.out
     simp only [List.length_append,List.length_drop,List.length_take] at h ⊢; omega
    ·exact HR.out.trans hr2
    ·rw [← HT.out]
     conv => rhs; rw [← List.take_append_drop (j - i) Y']
     simp only [List.append_assoc]
   case measure => simp [intOf]; omega
  ·subst hij
   have hc:=swapRange_any lf HSw.out (m - i) m i U X' [] Y' V wr (by rw [List.nil_append]; exact HRow.out.trans HR.out.off) (by rw [List.nil_append]; exact HN.out) hsmall
    (by have:=HU.out; omega) HXl.out HYl.out (by rw [List.length_nil]; omega)
   rw [show ((m - i : Nat) : Int) = (m : Int) - (i : Int) from by omega] at hc
   have HC:=Lib.hid hc
   clear hc k1
   go_wp2_with (go_at_call 272; refine HC.out.mono ?_; rintro en w2 ⟨rfl,hr2⟩)
   go_end0
   refine ⟨rfl,?_⟩
   have h:=(HR.out.trans hr2).off
   rw [List.nil_append,HT.out] at h
   exact h
  ·have d1 : decide ((i : Int) = (j : Int)) = false:=by simp; omega
   have hsp:=List.take_append_drop j X'
   have hc:=swapRange_any lf HSw.out (m - i) m j U (X'.take j) (X'.drop j) Y' V wr
    (by rw [← List.append_assoc (X'.take j),hsp]; exact HRow.out.trans HR.out.off) (by rw [← List.append_assoc (X'.take j),hsp]; exact HN.out) hsmall
    (by have:=HU.out; omega) (by rw [List.length_take,HXl.out]; omega) HYl.out (by rw [List.length_drop,HXl.out]; omega)
   rw [show ((m - i : Nat) : Int) = (m : Int) - (i : Int) from by omega] at hc
   have HC:=Lib.hid hc
   clear hc hsp k1
   go_wp2_with (go_at_call 272; refine HC.out.mono ?_; rintro en w2 ⟨rfl,hr2⟩)
   go_roundw
   case rel =>
    refine ⟨i - j,j,U ++ Y',X'.drop j,X'.take j,V,by go_num,rfl,by rw [List.length_drop,HXl.out],by rw [List.length_take,HXl.out]; omega,by omega,hj,?_,?_,?_,?_⟩
    ·have h:=HU.out
     have h2:=HYl.out
     rw [List.length_append]; omega
    ·have h:=HN.out
     have h2:=HXl.out
     simp only [List.length_append,List.length_drop,List.length_take] at h ⊢; omega
    ·rw [List.append_assoc]
     exact HR.out.trans hr2
    ·rw [← HT.out]
     conv => rhs; rw [← List.take_append_drop j X']
     simp only [List.append_assoc]
   case measure => simp [intOf]; omega
end
end
end Go.Proofs.YtadllffeoibelaaGreat
