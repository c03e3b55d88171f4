/-
  What these parts of the proof come to, functions walked and plain laws: OrdP, AcP, Comm. No condition.
-/
import Derived.Test.YtadllffeoibelaaGreatS10
import Derived.Test.YtadllffeoibelaaGreatS7
import Derived.Deep.DeepCutAuto
import Derived.Test.YtadllffeoibelaaGreatS9
import Derived.Test.YtadllffeoibelaaGreatS5
namespace Go.Proofs.YtadllffeoibelaaGreat
section

def lexLt : List Int→List Int→Bool
 | [],[] => false
 | [],_ :: _ => true
 | _ :: _,[] => false
 | x :: a,y :: b => if x = y then lexLt a b else decide (x < y)
theorem lexLt_irrefl : ∀ a,lexLt a a = false
 | [] => rfl
 | x :: a => by rw [lexLt,if_pos rfl]; exact lexLt_irrefl a
theorem lexLt_total : ∀ a b,lexLt a b = false→lexLt b a = false→a = b
 | [],[],_,_ => rfl
 | [],_ :: _,h,_ => by cases h
 | _ :: _,[],_,h => by cases h
 | x :: a,y :: b,h,h' => by
  rw [lexLt] at h h'
  by_cases e : x = y
  ·subst e
   rw [if_pos rfl] at h h'
   rw [lexLt_total a b h h']
  ·rw [if_neg e] at h
   rw [if_neg (Ne.symm e)] at h'
   simp at h h'
   omega
theorem lexLt_trans : ∀ a b c,lexLt a b = true→lexLt b c = true→lexLt a c = true
 | [],[],_,h,_ => by cases h
 | _ :: _,[],_,h,_ => by cases h
 | _,_ :: _,[],_,h => by cases h
 | [],_ :: _,_ :: _,_,_ => rfl
 | x :: a,y :: b,z :: c,h,h' => by
  rw [lexLt] at h h' ⊢
  by_cases e : x = y
  ·subst e
   rw [if_pos rfl] at h
   by_cases e2 : x = z
   ·subst e2
    rw [if_pos rfl] at h' ⊢
    exact lexLt_trans a b c h h'
   ·rw [if_neg e2] at h' ⊢
    exact h'
  ·rw [if_neg e] at h
   by_cases e2 : y = z
   ·subst e2
    rw [if_neg e]
    exact h
   ·rw [if_neg e2] at h'
    simp at h h'
    rw [if_neg (by omega)]
    simp; omega
theorem lexLt_asymm {a b : List Int} (h : lexLt a b = true) : lexLt b a = false:=by
 cases hb : lexLt b a with
 | false => rfl
 | true => have:=lexLt_trans a b a h hb; rw [lexLt_irrefl] at this; cases this
theorem lexLt_ntrans {a b c : List Int} (h : lexLt b a = false) (h' : lexLt c b = false) : lexLt c a = false:=by
 cases hc : lexLt c a with
 | false => rfl
 | true =>
  cases hab : lexLt a b with
  | true => have:=lexLt_trans c a b hc hab; rw [h'] at this; cases this
  | false => have:=lexLt_total a b hab h; subst this; rw [hc] at h'; cases h'
theorem lexLt_append : ∀ (a b c d : List Int),a.length = b.length→lexLt (a ++ c) (b ++ d) = if a = b then lexLt c d else lexLt a b
 | [],[],c,d,_ => by simp
 | x :: a,y :: b,c,d,h => by
  rw [List.cons_append,List.cons_append,lexLt,lexLt,lexLt_append a b c d (by simpa using h)]
  by_cases e : x = y
  ·subst e
   by_cases e2 : a = b
   ·subst e2; simp
   ·simp [e2]
  ·simp [e]
theorem numN_cons (b : UInt8) (l : List UInt8) : numN (b :: l) = b.toNat * 256 ^ l.length + numN l:=by
 have h : ∀ (l : List UInt8) (v : Nat),l.foldl (fun v b => v * 256 + b.toNat) v = v * 256 ^ l.length + l.foldl (fun v b => v * 256 + b.toNat) 0:=by
  intro l
  induction l with
  | nil => intro v; simp
  | cons x l ih =>
   intro v
   rw [List.foldl_cons,List.foldl_cons,ih (v * 256 + x.toNat),ih (0 * 256 + x.toNat),List.length_cons,Nat.pow_succ]
   rw [Nat.add_mul,Nat.zero_mul,Nat.zero_add,Nat.mul_assoc,Nat.mul_comm 256]; omega
 unfold numN
 rw [List.foldl_cons,h]
 simp
theorem numN_inj : ∀ (a b : List UInt8),a.length = b.length→numN a = numN b→a = b
 | [],[],_,_ => rfl
 | x :: a,y :: b,hl,h => by
  have hl' : a.length = b.length:=by simpa using hl
  rw [numN_cons,numN_cons,← hl'] at h
  have h1:=numN_lt a
  have h2:=numN_lt b
  rw [← hl'] at h2
  have hx : x.toNat = y.toNat:=by
   rcases Nat.lt_trichotomy x.toNat y.toNat with hh | hh | hh
   ·have:=Nat.mul_le_mul_right (256 ^ a.length) (show x.toNat + 1≤y.toNat from hh)
    rw [Nat.succ_mul] at this; omega
   ·exact hh
   ·have:=Nat.mul_le_mul_right (256 ^ a.length) (show y.toNat + 1≤x.toNat from hh)
    rw [Nat.succ_mul] at this; omega
  rw [hx] at h
  rw [UInt8.toNat_inj.1 hx,numN_inj a b hl' (by omega)]
theorem nm_inj {a b : Nm} (h : numN a.bytes = numN b.bytes) : a = b:=by
 have:=numN_inj a.bytes b.bytes rfl h
 cases a; cases b
 simp [Nm.bytes] at this
 simp [this]
def keyV (v : Vt) : List Int:=[(numN v.parent.bytes : Int),v.slot,v.round,v.kind,v.signer,v.choice,(numN v.value.bytes : Int),v.support]
theorem keyV_inj {a b : Vt} (h : keyV a = keyV b) : a = b:=by
 simp only [keyV,List.cons.injEq,and_true] at h
 obtain ⟨h1,h2,h3,h4,h5,h6,h7,h8⟩:=h
 have e1 : a.parent = b.parent:=nm_inj (by omega)
 have e7 : a.value = b.value:=nm_inj (by omega)
 cases a; cases b
 simp_all
theorem nm_iff (a b : Nm) : (numN a.bytes : Int) = numN b.bytes ↔ a = b:=⟨fun h => nm_inj (by omega),fun h => by rw [h]⟩
theorem lessN_int (a b : Nm) : lessN a b = decide ((numN a.bytes : Int) < numN b.bytes):=by
 unfold lessN
 rw [Bool.eq_iff_iff,decide_eq_true_eq,decide_eq_true_eq]; omega
theorem lessV_lex (a b : Vt) : lessV a b = lexLt (keyV a) (keyV b):=by
 unfold lessV keyV
 simp only [lexLt,nm_iff,lessN_int]
 repeat' split
 all_goals first | rfl | (rename_i h; simp [h]) | skip
def bytesI (l : List UInt8) : List Int:=l.map fun b => (b.toNat : Int)
theorem bytesI_inj : ∀ {a b : List UInt8},bytesI a = bytesI b→a = b
 | [],[],_ => rfl
 | x :: a,y :: b,h => by
  simp only [bytesI,List.map_cons,List.cons.injEq] at h
  rw [UInt8.toNat_inj.1 (by omega : x.toNat = y.toNat),bytesI_inj (a:=a) (b:=b) h.2]
theorem bytesLe_lex : ∀ a b : List UInt8,bytesLe a b = !lexLt (bytesI b) (bytesI a)
 | [],[] => rfl
 | [],_ :: _ => rfl
 | _ :: _,[] => rfl
 | x :: a,y :: b => by
  rw [bytesLe,bytesLe_lex a b]
  simp only [bytesI,List.map_cons,lexLt]
  by_cases e : x = y
  ·subst e; simp
  ·have hn : ¬ (y.toNat : Int) = x.toNat:=fun h => e (UInt8.toNat_inj.1 (by omega))
   rw [if_neg e,if_neg hn,Bool.eq_iff_iff]
   simp only [decide_eq_true_eq,Bool.not_eq_true',decide_eq_false_iff_not,UInt8.lt_iff_toNat_lt]
   omega
theorem bytesLess_lex : ∀ a b : List UInt8,Op.bytesLess a b = lexLt (bytesI a) (bytesI b)
 | [],[] => rfl
 | [],_ :: _ => rfl
 | _ :: _,[] => rfl
 | x :: a,y :: b => by
  simp only [Op.bytesLess,bytesI,List.map_cons,lexLt]
  rw [show lexLt (List.map (fun b => (b.toNat : Int)) a) (List.map (fun b => (b.toNat : Int)) b) = lexLt (bytesI a) (bytesI b) from rfl,← bytesLess_lex a b]
  by_cases e : x = y
  ·subst e; simp
  ·have hn : ¬ (x.toNat : Int) = y.toNat:=fun h => e (UInt8.toNat_inj.1 (by omega))
   rw [if_neg hn,Bool.eq_iff_iff]
   simp [e,UInt8.lt_iff_toNat_lt]
def lessS (x y : VS) : Bool:=if x.1 = y.1 then Op.bytesLess x.2 y.2 else lessV x.1 y.1
def keyS (x : VS) : List Int:=keyV x.1 ++ bytesI x.2
theorem lessS_lex (x y : VS) : lessS x y = lexLt (keyS x) (keyS y):=by
 unfold lessS keyS
 rw [lexLt_append (keyV x.1) (keyV y.1) _ _ (by simp [keyV]),bytesLess_lex,lessV_lex]
 by_cases e : x.1 = y.1
 ·rw [if_pos e,if_pos (by rw [e])]
 ·rw [if_neg e,if_neg (fun h => e (keyV_inj h))]
theorem lessS_ord : Ord lessS where
 asymm x y h:=by rw [lessS_lex] at h ⊢; exact lexLt_asymm h
 trans x y z h h':=by rw [lessS_lex] at h h' ⊢; exact lexLt_ntrans h h'
theorem lessV_irrefl (a : Vt) : lessV a a = false:=by rw [lessV_lex]; exact lexLt_irrefl _
theorem lessV_trans {a b c : Vt} (h : lessV a b = true) (h' : lessV b c = true) : lessV a c = true:=by rw [lessV_lex] at h h' ⊢; exact lexLt_trans _ _ _ h h'
theorem lessV_total {a b : Vt} (h : lessV a b = false) (h' : lessV b a = false) : a = b:=by rw [lessV_lex] at h h'; exact keyV_inj (lexLt_total _ _ h h')
theorem lessV_asymm {a b : Vt} (h : lessV a b = true) : lessV b a = false:=by rw [lessV_lex] at h ⊢; exact lexLt_asymm h
theorem bytesLe_refl (a : List UInt8) : bytesLe a a = true:=by rw [bytesLe_lex,lexLt_irrefl]; rfl
theorem bytesLe_trans {a b c : List UInt8} (h : bytesLe a b = true) (h' : bytesLe b c = true) : bytesLe a c = true:=by
 rw [bytesLe_lex,Bool.not_eq_true'] at *
 exact lexLt_ntrans h h'
theorem bytesLe_antisymm {a b : List UInt8} (h : bytesLe a b = true) (h' : bytesLe b a = true) : a = b:=by
 rw [bytesLe_lex,Bool.not_eq_true'] at *
 exact bytesI_inj (lexLt_total _ _ h' h)
theorem bytesLe_total {a b : List UInt8} (h : bytesLe a b = false) : bytesLe b a = true:=by
 rw [bytesLe_lex] at *
 simp at h ⊢
 exact lexLt_asymm h
def StrictV (c : List VS) : Prop:=c.Pairwise fun x y => lessV x.1 y.1 = true
theorem strict_ext : ∀ (c d : List VS),StrictV c→StrictV d→(∀ x,x ∈ c ↔ x ∈ d)→c = d
 | [],[],_,_,_ => rfl
 | [],y :: d,_,_,h => by have:=(h y).2 (by simp); simp at this
 | x :: c,[],_,_,h => by have:=(h x).1 (by simp); simp at this
 | x :: c,y :: d,h1,h2,h => by
  obtain ⟨a1,b1⟩:=List.pairwise_cons.1 h1
  obtain ⟨a2,b2⟩:=List.pairwise_cons.1 h2
  have hxy : x = y:=by
   rcases List.mem_cons.1 ((h x).1 (by simp)) with e | hx
   ·exact e
   ·rcases List.mem_cons.1 ((h y).2 (by simp)) with e | hy
    ·exact e.symm
    ·have:=lessV_trans (a1 y hy) (a2 x hx)
     rw [lessV_irrefl] at this; cases this
  subst hxy
  congr 1
  refine strict_ext c d b1 b2 (fun z => ⟨fun hz => ?_,fun hz => ?_⟩)
  ·rcases List.mem_cons.1 ((h z).1 (by simp [hz])) with e | hz'
   ·subst e; have:=a1 z hz; rw [lessV_irrefl] at this; cases this
   ·exact hz'
  ·rcases List.mem_cons.1 ((h z).2 (by simp [hz])) with e | hz'
   ·subst e; have:=a2 z hz; rw [lessV_irrefl] at this; cases this
   ·exact hz'
theorem StrictV.same {c : List VS} (h : StrictV c) {x y : VS} (hx : x ∈ c) (hy : y ∈ c) (e : x.1 = y.1) : x = y:=by
 induction c with
 | nil => cases hx
 | cons z c ih =>
  obtain ⟨a,b⟩:=List.pairwise_cons.1 h
  rcases List.mem_cons.1 hx with ex | hx
  ·rcases List.mem_cons.1 hy with ey | hy
   ·rw [ex,ey]
   ·have:=a y hy; rw [← ex,e,lessV_irrefl] at this; cases this
  ·rcases List.mem_cons.1 hy with ey | hy
   ·have:=a x hx; rw [← ey,e,lessV_irrefl] at this; cases this
   ·exact ih b hx hy
structure IsCan (l c : List VS) : Prop where
 asc : StrictV c
 sub : ∀ x ∈ c,x ∈ l
 dom : ∀ x ∈ l,∃ y ∈ c,y.1 = x.1∧bytesLe y.2 x.2 = true
theorem IsCan.unique {l c d : List VS} (h : IsCan l c) (h' : IsCan l d) : c = d:=by
 have half : ∀ {c d : List VS},IsCan l c→IsCan l d→∀ x,x ∈ c→x ∈ d:=by
  intro c d h h' x hx
  obtain ⟨y,hy,e1,l1⟩:=h'.dom x (h.sub x hx)
  obtain ⟨z,hz,e2,l2⟩:=h.dom y (h'.sub y hy)
  have hzx : z = x:=h.asc.same hz hx (e2.trans e1)
  subst hzx
  have e3:=bytesLe_antisymm l1 l2
  have : y = z:=Prod.ext e1 e3
  rw [← this]; exact hy
 exact strict_ext c d h.asc h'.asc (fun x => ⟨half h h' x,half h' h x⟩)
theorem IsCan.congr {l l' c : List VS} (h : IsCan l c) (hm : ∀ x,x ∈ l ↔ x ∈ l') : IsCan l' c:=⟨h.asc,fun x hx => (hm x).1 (h.sub x hx),fun x hx => h.dom x ((hm x).2 hx)⟩
theorem strict_of_asc : ∀ {l : List VS},ascL l = true→StrictV l
 | [],_ => List.Pairwise.nil
 | [_],_ => List.pairwise_singleton _ _
 | x :: y :: l,h => by
  rw [ascL,Bool.and_eq_true] at h
  have ih:=strict_of_asc h.2
  refine List.pairwise_cons.2 ⟨fun z hz => ?_,ih⟩
  rcases List.mem_cons.1 hz with rfl | hz
  ·exact h.1
  ·exact lessV_trans h.1 ((List.pairwise_cons.1 ih).1 z hz)
theorem isCan_self {l : List VS} (h : StrictV l) : IsCan l l:=⟨h,fun _ hx => hx,fun x hx => ⟨x,hx,rfl,bytesLe_refl _⟩⟩
theorem or_l {x y : VS} {a b : List VS} (h : x ∈ a∨x ∈ b) : x ∈ y :: a∨x ∈ b:=by
 rcases h with h | h
 ·exact .inl (List.mem_cons_of_mem _ h)
 ·exact .inr h
theorem or_r {x y : VS} {a b : List VS} (h : x ∈ a∨x ∈ b) : x ∈ a∨x ∈ y :: b:=by
 rcases h with h | h
 ·exact .inl h
 ·exact .inr (List.mem_cons_of_mem _ h)
theorem mergeL_mem : ∀ (n : Nat) (a b : List VS),a.length + b.length≤n→∀ x ∈ mergeL a b,x ∈ a∨x ∈ b
 | _,[],b,_,x,hx => by rw [nil_mergeL] at hx; exact .inr hx
 | _,x :: a,[],_,z,hz => by rw [mergeL_nil] at hz; exact .inl hz
 | 0,x :: a,y :: b,h,_,_ => by simp at h
 | n + 1,x :: a,y :: b,h,z,hz => by
  have h1:=mergeL_mem n a (y :: b) (by simp at h ⊢; omega) z
  have h2:=mergeL_mem n (x :: a) b (by simp at h ⊢; omega) z
  rw [mergeL] at hz
  split at hz
  ·rcases List.mem_cons.1 hz with rfl | hz
   ·exact .inl (by simp)
   ·exact or_l (h1 hz)
  ·split at hz
   ·rcases List.mem_cons.1 hz with rfl | hz
    ·exact .inr (by simp)
    ·exact or_r (h2 hz)
   ·split at hz
    ·exact or_r (h2 hz)
    ·exact or_l (h1 hz)
theorem mem_l {x z : VS} {a b : List VS} (h : z ∈ a ++ b) : z ∈ x :: a ++ b:=List.mem_cons_of_mem _ h
theorem mem_r {y z : VS} {a b : List VS} (h : z ∈ a ++ b) : z ∈ a ++ y :: b:=by
 rcases List.mem_append.1 h with h | h
 ·exact List.mem_append.2 (.inl h)
 ·exact List.mem_append.2 (.inr (List.mem_cons_of_mem _ h))
theorem drop_l {x z : VS} {a b : List VS} (h : z ∈ x :: a ++ b) (e : ¬ z = x) : z ∈ a ++ b:=by
 rcases List.mem_cons.1 h with h | h
 ·exact absurd h e
 ·exact h
theorem drop_r {y z : VS} {a b : List VS} (h : z ∈ a ++ y :: b) (e : ¬ z = y) : z ∈ a ++ b:=by
 rcases List.mem_append.1 h with h | h
 ·exact List.mem_append.2 (.inl h)
 ·rcases List.mem_cons.1 h with h | h
  ·exact absurd h e
  ·exact List.mem_append.2 (.inr h)
theorem mergeL_can : ∀ (n : Nat) (a b : List VS),a.length + b.length≤n→StrictV a→StrictV b→IsCan (a ++ b) (mergeL a b)
 | _,[],b,_,_,hb => by rw [nil_mergeL,List.nil_append]; exact isCan_self hb
 | _,x :: a,[],_,ha,_ => by rw [mergeL_nil,List.append_nil]; exact isCan_self ha
 | 0,x :: a,y :: b,h,_,_ => by simp at h
 | n + 1,x :: a,y :: b,h,ha,hb => by
  have hn1 : a.length + (y :: b).length≤n:=by simp at h ⊢; omega
  have hn2 : (x :: a).length + b.length≤n:=by simp at h ⊢; omega
  obtain ⟨a1,a2⟩:=List.pairwise_cons.1 ha
  obtain ⟨b1,b2⟩:=List.pairwise_cons.1 hb
  have h1:=mergeL_can n a (y :: b) hn1 a2 hb
  have h2:=mergeL_can n (x :: a) b hn2 ha b2
  rw [mergeL]
  by_cases c1 : lessV x.1 y.1 = true
  ·rw [if_pos c1]
   refine ⟨List.pairwise_cons.2 ⟨fun z hz => ?_,h1.asc⟩,fun z hz => ?_,fun z hz => ?_⟩
   ·rcases mergeL_mem _ _ _ (Nat.le_refl _) z hz with hz | hz
    ·exact a1 z hz
    ·rcases List.mem_cons.1 hz with rfl | hz
     ·exact c1
     ·exact lessV_trans c1 (b1 z hz)
   ·rcases List.mem_cons.1 hz with rfl | hz
    ·simp
    ·exact mem_l (h1.sub z hz)
   ·by_cases e : z = x
    ·subst e; exact ⟨z,by simp,rfl,bytesLe_refl _⟩
    ·obtain ⟨u,hu,p⟩:=h1.dom z (drop_l hz e)
     exact ⟨u,by simp [hu],p⟩
  ·rw [if_neg c1]
   by_cases c2 : lessV y.1 x.1 = true
   ·rw [if_pos c2]
    refine ⟨List.pairwise_cons.2 ⟨fun z hz => ?_,h2.asc⟩,fun z hz => ?_,fun z hz => ?_⟩
    ·rcases mergeL_mem _ _ _ (Nat.le_refl _) z hz with hz | hz
     ·rcases List.mem_cons.1 hz with rfl | hz
      ·exact c2
      ·exact lessV_trans c2 (a1 z hz)
     ·exact b1 z hz
    ·rcases List.mem_cons.1 hz with rfl | hz
     ·simp
     ·exact mem_r (h2.sub z hz)
    ·by_cases e : z = y
     ·subst e; exact ⟨z,by simp,rfl,bytesLe_refl _⟩
     ·obtain ⟨u,hu,p⟩:=h2.dom z (drop_r hz e)
      exact ⟨u,by simp [hu],p⟩
   ·rw [if_neg c2]
    have exy : x.1 = y.1:=lessV_total (Bool.eq_false_iff.2 c1) (Bool.eq_false_iff.2 c2)
    by_cases c3 : bytesLe x.2 y.2 = true
    ·rw [if_pos c3]
     refine ⟨h2.asc,fun z hz => ?_,fun z hz => ?_⟩
     ·exact mem_r (h2.sub z hz)
     ·by_cases e : z = y
      ·subst e
       obtain ⟨u,hu,p1,p2⟩:=h2.dom x (by simp)
       exact ⟨u,hu,p1.trans exy,bytesLe_trans p2 c3⟩
      ·exact h2.dom z (drop_r hz e)
    ·rw [if_neg c3]
     have c4:=bytesLe_total (Bool.eq_false_iff.2 c3)
     refine ⟨h1.asc,fun z hz => ?_,fun z hz => ?_⟩
     ·exact mem_l (h1.sub z hz)
     ·by_cases e : z = x
      ·subst e
       obtain ⟨u,hu,p1,p2⟩:=h1.dom y (by simp)
       exact ⟨u,hu,p1.trans exy.symm,bytesLe_trans p2 c4⟩
      ·exact h1.dom z (drop_l hz e)
theorem canF_can : ∀ (n : Nat) (l : List VS),l.length≤n→IsCan l (canF l)
 | 0,l,h => by
  have : l = []:=List.eq_nil_of_length_eq_zero (by omega)
  subst this
  exact isCan_self List.Pairwise.nil
 | n + 1,l,h => by
  by_cases ha : ascL l = true
  ·rw [canF_asc ha]; exact isCan_self (strict_of_asc ha)
  ·have h2 : 2≤l.length:=by
    rcases Nat.lt_or_ge l.length 2 with h3 | h3
    ·exact absurd (ascL_short l (by omega)) ha
    ·exact h3
   rw [canF_split ha]
   have i1:=canF_can n (l.take (l.length / 2)) (by rw [List.length_take]; omega)
   have i2:=canF_can n (l.drop (l.length / 2)) (by rw [List.length_drop]; omega)
   have m:=mergeL_can _ _ _ (Nat.le_refl _) i1.asc i2.asc
   refine ⟨m.asc,fun x hx => ?_,fun x hx => ?_⟩
   ·rcases List.mem_append.1 (m.sub x hx) with hx | hx
    ·exact List.mem_of_mem_take (i1.sub x hx)
    ·exact List.mem_of_mem_drop (i2.sub x hx)
   ·have hx' : x ∈ l.take (l.length / 2) ++ l.drop (l.length / 2):=by rw [List.take_append_drop]; exact hx
    rcases List.mem_append.1 hx' with hx | hx
    ·obtain ⟨y,hy,e1,l1⟩:=i1.dom x hx
     obtain ⟨z,hz,e2,l2⟩:=m.dom y (by simp [hy])
     exact ⟨z,hz,e2.trans e1,bytesLe_trans l2 l1⟩
    ·obtain ⟨y,hy,e1,l1⟩:=i2.dom x hx
     obtain ⟨z,hz,e2,l2⟩:=m.dom y (by simp [hy])
     exact ⟨z,hz,e2.trans e1,bytesLe_trans l2 l1⟩
theorem canF_is (l : List VS) : IsCan l (canF l):=canF_can _ l (Nat.le_refl _)
def thin {α : Type} (f : α→Vt) (s : List α) : Nat→List α
 | 0 => []
 | i + 1 => thin f s i ++ match s[i]? with
  | some x => if (i = 0∨(s[i - 1]?.map f) ≠ some (f x)) then [x] else []
  | none => []
theorem thin_map {α β : Type} (f : α→Vt) (f' : β→Vt) (k : α→β) (hk : ∀ x,f' (k x) = f x) (s : List α) : ∀ i,(thin f s i).map k = thin f' (s.map k) i
 | 0 => rfl
 | i + 1 => by
  rw [thin,thin,List.map_append,thin_map f f' k hk s i,List.getElem?_map,List.getElem?_map]
  congr 1
  rcases s[i]? with _ | x
  ·rfl
  ·have e : ((s[i - 1]?.map k).map f') = s[i - 1]?.map f:=by
    rcases s[i - 1]? with _ | y
    ·rfl
    ·simp [hk]
   simp only [Option.map_some,e,hk]
   split <;> rfl
theorem thin_len {α : Type} (f : α→Vt) (s : List α) : ∀ i,(thin f s i).length≤i
 | 0 => Nat.le_refl _
 | i + 1 => by
  have:=thin_len f s i
  rw [thin,List.length_append]
  rcases s[i]? with _ | x
  ·simp; omega
  ·simp only; split <;> simp <;> omega
theorem thin_can (s : List VS) (hs : Asc lessS s) : ∀ i,i≤s.length→IsCan (s.take i) (thin Prod.fst s i)∧(∀ y,0 < i→s[i - 1]? = some y→∃ z,(thin Prod.fst s i).getLast? = some z∧z.1 = y.1)
 | 0,_ => ⟨by simp [thin]; exact isCan_self List.Pairwise.nil,fun _ h => absurd h (Nat.lt_irrefl _)⟩
 | i + 1,hi => by
  obtain ⟨h,hl⟩:=thin_can s hs i (by omega)
  obtain ⟨x,hx⟩ : ∃ x,s[i]? = some x:=⟨_,List.getElem?_eq_getElem (by omega)⟩
  have ht : s.take (i + 1) = s.take i ++ [x]:=by rw [List.take_add_one,hx]; rfl
  rw [thin,hx,ht]
  simp only []
  by_cases c : i = 0∨(s[i - 1]?.map Prod.fst) ≠ some x.1
  ·rw [if_pos c]
   refine ⟨⟨?_,?_,?_⟩,fun y _ hy => ⟨x,by simp,by rw [Nat.add_sub_cancel,hx] at hy; cases hy; rfl⟩⟩
   ·refine List.pairwise_append.2 ⟨h.asc,List.pairwise_singleton _ _,fun u hu v hv => ?_⟩
    rw [List.mem_singleton.1 hv]
    have hu':=h.sub u hu
    obtain ⟨k,hk⟩:=List.mem_iff_getElem?.1 hu'
    rw [List.getElem?_take] at hk
    split at hk
    ·rename_i hki
     have h0 : i ≠ 0:=by omega
     obtain ⟨y,hy⟩ : ∃ y,s[i - 1]? = some y:=⟨_,List.getElem?_eq_getElem (by omega)⟩
     have hne : x.1 ≠ y.1:=by
      rcases c with c | c
      ·exact absurd c h0
      ·rw [hy] at c
       intro e; apply c; simp [e]
     have hyx : lessS x y = false:=hs.get (by omega) hy hx
     have h1 : lessV y.1 x.1 = true:=by
      unfold lessS at hyx
      rw [if_neg hne] at hyx
      cases hh : lessV y.1 x.1 with
      | true => rfl
      | false => exact absurd (lessV_total hyx hh) hne
     rcases Nat.lt_or_ge k (i - 1) with hlt | hge
     ·have huy : lessS y u = false:=hs.get hlt hk hy
      by_cases e : y.1 = u.1
      ·rw [← e]; exact h1
      ·unfold lessS at huy
       rw [if_neg e] at huy
       have h2 : lessV u.1 y.1 = true:=by
        cases hh : lessV u.1 y.1 with
        | true => rfl
        | false => exact absurd (lessV_total huy hh) e
       exact lessV_trans h2 h1
     ·obtain rfl : k = i - 1:=by omega
      rw [hk] at hy; cases hy; exact h1
    ·cases hk
   ·intro u hu
    rcases List.mem_append.1 hu with hu | hu
    ·exact List.mem_append.2 (.inl (h.sub u hu))
    ·exact List.mem_append.2 (.inr hu)
   ·intro u hu
    rcases List.mem_append.1 hu with hu | hu
    ·obtain ⟨y,hy,p⟩:=h.dom u hu
     exact ⟨y,by simp [hy],p⟩
    ·rw [List.mem_singleton.1 hu]
     exact ⟨x,by simp,rfl,bytesLe_refl _⟩
  ·rw [if_neg c,List.append_nil]
   have h0 : i ≠ 0:=fun e => c (.inl e)
   obtain ⟨y,hy⟩ : ∃ y,s[i - 1]? = some y:=⟨_,List.getElem?_eq_getElem (by omega)⟩
   have e : y.1 = x.1:=by
    rcases Classical.em (y.1 = x.1) with e | e
    ·exact e
    ·exact absurd (.inr (by rw [hy]; simpa using e)) c
   obtain ⟨z,hz,ez⟩:=hl y (by omega) hy
   refine ⟨⟨h.asc,fun u hu => List.mem_append.2 (.inl (h.sub u hu)),fun u hu => ?_⟩,fun u _ hu => ?_⟩
   ·rcases List.mem_append.1 hu with hu | hu
    ·exact h.dom u hu
    ·rw [List.mem_singleton.1 hu]
     obtain ⟨v,hv,e1,l1⟩:=h.dom y (List.mem_iff_getElem?.2 ⟨i - 1,by rw [List.getElem?_take,if_pos (by omega),hy]⟩)
     refine ⟨v,hv,e1.trans e,bytesLe_trans l1 ?_⟩
     have hyx : lessS x y = false:=hs.get (by omega) hy hx
     unfold lessS at hyx
     rw [if_pos e.symm,bytesLess_lex] at hyx
     rw [bytesLe_lex,hyx]; rfl
   ·rw [Nat.add_sub_cancel,hx] at hu; cases hu
    exact ⟨z,hz,ez.trans e⟩
theorem thin_all {l s : List VS} (hp : s.Perm l) (hs : Asc lessS s) : thin Prod.fst s s.length = canF l:=by
 have h:=(thin_can s hs s.length (Nat.le_refl _)).1
 rw [List.take_length] at h
 exact (h.congr (fun x => hp.mem_iff)).unique (canF_is l)
end
section
open Go.RowKit
theorem popF_step (x n : Nat) : popF x (n + 1) = popF x n + (x.testBit n).toNat:=by
 rw [Nat.toNat_testBit]; rfl
theorem popF_mono {a b : Nat} (h : ∀ i,i < 10→a.testBit i = true→b.testBit i = true) : ∀ n,n≤10→popF a n≤popF b n
 | 0,_ => Nat.le_refl _
 | n + 1,hn => by
  have h1:=popF_mono h n (by omega)
  have h2:=h n (by omega)
  rw [popF_step,popF_step]
  cases ha : a.testBit n with
  | false => simp; omega
  | true => rw [h2 ha]; omega
theorem popF_pos {a : Nat} : ∀ n,0 < popF a n→∃ i,i < n∧a.testBit i = true
 | 0,h => by simp [popF] at h
 | n + 1,h => by
  cases ha : a.testBit n with
  | true => exact ⟨n,by omega,ha⟩
  | false =>
   rw [popF_step,ha] at h
   obtain ⟨i,h1,h2⟩:=popF_pos n (by simpa using h)
   exact ⟨i,by omega,h2⟩
def quoF (n : Nat) : Nat:=n - (n - 1) / 3
def InN (s x : Nat) : Prop:=∀ i,i < 10→s.testBit i = true→x.testBit i = true
theorem quo_pos {x : Nat} (hx : 0 < popF x 10) : 0 < quoF (popF x 10):=by unfold quoF; omega
def SameV (a b : Vt) : Prop:=a.choice = b.choice∧a.value = b.value
instance (a b : Vt) : Decidable (SameV a b):=by unfold SameV; infer_instance
structure OutS (x : Nat) (O : List Vt) (r c : Int) (val : Nm) : Prop where
 ne : c ≠ 2
 quo : ∃ S,InN S x∧quoF (popF x 10)≤popF S 10∧∀ i,i < 10→S.testBit i = true→∃ w ∈ O,w.signer = (i : Int)∧w.kind = 4∧w.round = r∧w.choice = c∧w.value = val
theorem out_some {x : Nat} {O : List Vt} {r c : Int} {val : Nm} (ho : OutS x O r c val) (hx : 0 < popF x 10) : ∃ w ∈ O,w.kind = 4∧w.round = r∧w.choice = c∧w.value = val:=by
 obtain ⟨S,_,hq,hw⟩:=ho.quo
 obtain ⟨i,hi,ht⟩:=popF_pos 10 (Nat.lt_of_lt_of_le (quo_pos hx) hq)
 obtain ⟨w,hw,_,r⟩:=hw i hi ht
 exact ⟨w,hw,r⟩
end
section
open Go.RowKit
def xOf (M : Int) : Nat:=(M % 1024).toNat
theorem xOf_lt (M : Int) : xOf M < 1024:=by unfold xOf; omega
theorem xOf_nat (x : Nat) (hx : x < 1024) : xOf (x : Int) = x:=by unfold xOf; omega
theorem bv_low (y : BitVec 64) : (y &&& BitVec.ofInt 64 1023).toNat = y.toNat % 1024:=by
 rw [BitVec.toNat_and]
 show y.toNat &&& (2 ^ 10 - 1) = _
 rw [Nat.and_two_pow_sub_one_eq_mod]
theorem bv_one (y : BitVec 64) : (y &&& BitVec.ofInt 64 1).toNat = y.toNat % 2:=by
 rw [BitVec.toNat_and]
 show y.toNat &&& (2 ^ 1 - 1) = _
 rw [Nat.and_two_pow_sub_one_eq_mod]
theorem and_1023 (M : Int) : bits .and .i64 M 1023 = (xOf M : Int):=by
 show IntKind.i64.wrap ((BitVec.ofInt 64 M &&& BitVec.ofInt 64 1023).toNat : Int) = _
 rw [bv_low,BitVec.toNat_ofInt,IntKind.wrap_i64]
 unfold xOf
 omega
theorem and_1 (M : Int) : bits .and .i64 M 1 = M % 2:=by
 show IntKind.i64.wrap ((BitVec.ofInt 64 M &&& BitVec.ofInt 64 1).toNat : Int) = _
 rw [bv_one,BitVec.toNat_ofInt,IntKind.wrap_i64]
 omega
theorem has_bit (M : Int) (i : Nat) (hi : i < 10) : (M / ((2 ^ i : Nat) : Int) % 2 == 1) = (xOf M).testBit i:=by
 rw [Nat.testBit_eq_decide_div_mod_eq]
 unfold xOf
 rw [Bool.eq_iff_iff,beq_iff_eq,decide_eq_true_eq]
 rcases (by omega : i = 0∨i = 1∨i = 2∨i = 3∨i = 4∨i = 5∨i = 6∨i = 7∨i = 8∨i = 9) with rfl | rfl | rfl | rfl | rfl | rfl | rfl | rfl | rfl | rfl <;> simp <;> omega
set_option maxRecDepth 100000 in
set_option maxHeartbeats 1000000 in
theorem chas_any (M : Int) (i : Nat) (hi : i < 10) (w : World) : Calls Tryz.prog 19 #[.int .i64 M,.int .i64 (i : Int)] w fun e w' => e = .returned (.bool ((xOf M).testBit i))∧w' = w:=by
 have ha:=and_1 (M / ((2 ^ i : Nat) : Int))
 have hb:=has_bit M i hi
 rw [← ha] at hb
 clear ha
 generalize (xOf M).testBit i = r at *
 rcases (by omega : i = 0∨i = 1∨i = 2∨i = 3∨i = 4∨i = 5∨i = 6∨i = 7∨i = 8∨i = 9) with rfl | rfl | rfl | rfl | rfl | rfl | rfl | rfl | rfl | rfl
 all_goals
  simp at hb
  go_enter Tryz.func19,Tryz.ntmps19
  go_wp2
  go_ret
  exact ⟨rfl,rfl⟩
set_option maxRecDepth 100000 in
theorem csizeM_any (M : Int) (w : World) : Calls Tryz.prog 15 #[.int .i64 M] w fun e w' => e = .returned (.int .i64 ((popF (xOf M) 10 : Nat) : Int))∧w' = w:=by
 have H:=Lib.hid (fun W => ones_any (xOf M) W (xOf_lt M))
 have hw:=wrap_u64_lt (xOf M) (xOf_lt M)
 have ha:=and_1023 M
 generalize popF (xOf M) 10 = r at *
 generalize xOf M = x at *
 go_enter Tryz.func15,Tryz.ntmps15
 go_wp2_with (go_at_call 38; refine (H.out _).mono ?_; rintro en w2 ⟨rfl,hw2⟩; replace hw2:=hw2.symm; subst hw2)
 go_ret
 exact ⟨rfl,rfl⟩
set_option maxRecDepth 100000 in
theorem quorum_any (n : Nat) (hn : n≤10) (w : World) : Calls Tryz.prog 115 #[.int .i64 (n : Int)] w fun e w' => e = .returned (.int .i64 ((quoF n : Nat) : Int))∧w' = w:=by
 rcases (by omega : n = 0∨n = 1∨n = 2∨n = 3∨n = 4∨n = 5∨n = 6∨n = 7∨n = 8∨n = 9∨n = 10) with rfl | rfl | rfl | rfl | rfl | rfl | rfl | rfl | rfl | rfl | rfl
 all_goals
  go_enter Tryz.func115,Tryz.ntmps115
  go_wp2
  go_ret
  exact ⟨rfl,rfl⟩
end
end Go.Proofs.YtadllffeoibelaaGreat
