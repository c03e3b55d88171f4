/-
  What these parts of the proof come to, functions walked and plain laws: St2, Pd1, SlLay. No condition.
-/
import Derived.Test.YtadllffeoibelaaGreatS7
import Derived.Deep.DeepCutAuto
import Derived.Shelf.SlSortFuncK.WholeK
import Derived.Test.YtadllffeoibelaaGreatS1
namespace Go.Proofs.YtadllffeoibelaaGreat
section
open Go.RowKit
section
variable {α : Type} {c : α→List Value} {t : TypeId} {w0 : World} {g n f F : Nat} {sb lb : Array Value} {lt : α→α→Bool} {l0 : List α}
def SortPost (c : α→List Value) (t : TypeId) (g : Nat) (lt : α→α→Bool) (l : List α) (a b : Nat) (w : World) (e : Ending) (w' : World) : Prop :=
 e = .returned (.tuple #[])∧∃ l',Row c t w g l' w'∧Kept l l' a b∧Asc lt (seg l' a b)
def InsRel (lt : α→α→Bool) (l' : List α) (a i j : Nat) (lj : List α) : Prop :=
 ∃ (Q L1 L2 R : List α) (x : α),Q.length = a∧a + L1.length = j∧j + L2.length = i∧l' = Q ++ ((L1 ++ L2) ++ x :: R)∧lj = Q ++ ((L1 ++ x :: L2) ++ R)∧Asc lt (L1 ++ L2)∧∀ z ∈ L2,lt x z = true
theorem InsRel.start {l' : List α} {a i : Nat} (hai : a≤i) (hi : i < l'.length) (hs : Asc lt (seg l' a i)) : InsRel lt l' a i i l':=by
 obtain ⟨e,h1,h2⟩:=seg_cut l' hai (Nat.le_of_lt hi)
 refine ⟨l'.take a,seg l' a i,[],l'.drop (i + 1),l'[i],h1,by omega,by simp,?_,?_,by simpa using hs,fun z hz => by cases hz⟩
 ·rw [List.append_nil,← List.drop_eq_getElem_cons hi]; exact e
 ·rw [List.append_assoc,List.cons_append,List.nil_append,← List.drop_eq_getElem_cons hi]; exact e
theorem InsRel.len {l' lj : List α} {a i j : Nat} (h : InsRel lt l' a i j lj) : lj.length = l'.length∧a≤j∧j≤i∧i < l'.length:=by
 obtain ⟨Q,L1,L2,R,x,h1,h2,h3,h4,h5,_,_⟩:=h
 rw [h4,h5]
 simp only [List.length_append,List.length_cons]
 omega
theorem InsRel.perm {l' lj : List α} {a i j : Nat} (h : InsRel lt l' a i j lj) : Kept l' lj a (i + 1):=by
 obtain ⟨Q,L1,L2,R,x,h1,h2,h3,h4,h5,_,_⟩:=h
 rw [h4,h5]
 have hp : (L1 ++ x :: L2).Perm ((L1 ++ L2) ++ [x]):=(List.perm_middle).trans (List.perm_append_singleton x (L1 ++ L2)).symm
 have e : Q ++ ((L1 ++ L2) ++ x :: R) = Q ++ (((L1 ++ L2) ++ [x]) ++ R):=by simp
 rw [e]
 exact kept_of h1 (by simp only [List.length_append,List.length_cons,List.length_nil]; omega) hp
theorem InsRel.two {l' lj : List α} {a i j : Nat} (h : InsRel lt l' a i j lj) (hj : a < j) : ∃ x y,lj[j]? = some x∧lj[j - 1]? = some y∧(lt x y = true→InsRel lt l' a i (j - 1) (swapL lj j (j - 1))):=by
 obtain ⟨Q,L1,L2,R,x,h1,h2,h3,h4,h5,h6,h7⟩:=h
 obtain ⟨L,y,hL⟩ : ∃ L y,L1 = L ++ [y]:=by
  rcases List.eq_nil_or_concat L1 with e | ⟨L,y,e⟩
  ·rw [e] at h2; simp at h2; omega
  ·exact ⟨L,y,by simpa using e⟩
 subst hL
 rw [List.length_append,List.length_singleton] at h2
 have e : lj = (Q ++ L) ++ y :: x :: (L2 ++ R):=by rw [h5]; simp
 have el : (Q ++ L).length = j - 1:=by rw [List.length_append]; omega
 refine ⟨x,y,?_,?_,fun hxy => ⟨Q,L,y :: L2,R,x,h1,by omega,by rw [List.length_cons]; omega,by rw [h4]; simp,?_,by simpa using h6,?_⟩⟩
 ·rw [e,List.getElem?_append_right (by omega),el,show j - (j - 1) = 1 from by omega]; rfl
 ·rw [e,List.getElem?_append_right (by omega),el,Nat.sub_self]; rfl
 ·have hs:=swapL_prev (Q ++ L) (L2 ++ R) y x
  rw [el,show j - 1 + 1 = j from by omega,← e] at hs
  rw [hs]; simp
 ·intro z hz
  rcases List.mem_cons.1 hz with rfl | hz
  ·exact hxy
  ·exact h7 z hz
theorem InsRel.done (ho : Ord lt) {l' lj : List α} {a i j : Nat} (h : InsRel lt l' a i j lj) (hs : j = a∨∃ x y,lj[j]? = some x∧lj[j - 1]? = some y∧lt x y = false) : Asc lt (seg lj a (i + 1)):=by
 obtain ⟨Q,L1,L2,R,x,h1,h2,h3,h4,h5,h6,h7⟩:=h
 rw [h5,seg_mid h1 (by simp only [List.length_append,List.length_cons]; omega)]
 refine asc_insert h6 ?_ (fun z hz => ho.asymm _ _ (h7 z hz))
 rcases hs with hj | ⟨x',y,hx,hy,hxy⟩
 ·have : L1 = []:=List.eq_nil_of_length_eq_zero (by omega)
  subst this
  intro z hz; cases hz
 ·rcases List.eq_nil_or_concat L1 with e | ⟨L,u,e⟩
  ·rw [e]; intro z hz; cases hz
  ·have e' : L1 = L ++ [u]:=by simpa using e
   subst e'
   rw [List.length_append,List.length_singleton] at h2
   have el : (Q ++ L).length = j - 1:=by rw [List.length_append]; omega
   have ej : lj = (Q ++ L) ++ u :: x :: (L2 ++ R):=by rw [h5]; simp
   rw [ej,List.getElem?_append_right (by omega),el,show j - (j - 1) = 1 from by omega] at hx
   rw [ej,List.getElem?_append_right (by omega),el,Nat.sub_self] at hy
   cases hx; cases hy
   exact Asc.last_le ho (asc_append.1 h6).1 hxy
set_option maxRecDepth 100000 in
set_option maxHeartbeats 2000000 in
theorem insertion_any (eg : ∀ args w,(callFunc F args).run Tryz.prog w = .ok (.enter F args) w) (ho : Ord lt) (hle : LessOn c t w0 g l0 lt F lb) (hsw : SwapOn c t w0 g n f sb) (a b : Nat) (l : List α) (w : World) (hrow : Row c t w0 g l w) (hp : l.Perm l0) (hn : l.length = n) (hsmall : n≤1000000)
  (hab : a≤b) (hb : b≤n) :
  Calls Tryz.prog 179 #[.agg #[.func (.func F) #[] lb,.func (.func f) #[] sb],.int .i64 (a : Int),.int .i64 (b : Int)] w (SortPost c t g lt l a b w):=by
 have HO:=Lib.hid ho; clear ho
 have HLe:=Lib.hid hle; clear hle
 have HSw:=Lib.hid hsw; clear hsw
 have HRow:=Lib.hid hrow; clear hrow
 have HP:=Lib.hid hp; clear hp
 have HN:=Lib.hid hn; clear hn
 have hgw : g < w.heap.size:=HRow.out.blk.lt
 go_enter Tryz.func179,Tryz.ntmps179
 go_wp2
 go_loopw [6] (fun iv wr => ∃ (i : Nat) (l' : List α),iv = .int .i64 (i : Int)∧a < i∧(i≤b∨b = a)∧Row c t (w.alloc (.cells #[.func (.func F) #[] lb,.func (.func f) #[] sb] 190)) g l' wr∧Kept l l' a b∧Asc lt (seg l' a i)) (fun iv _ => b + 1 - (intOf iv).toNat)
 case atStart =>
  refine ⟨a + 1,l,by go_num,by omega,by omega,Row.self (HRow.out.blk.alloc _),Kept.refl _ _ _,?_⟩
  rcases hs : seg l a (a + 1) with _ | ⟨x,_ | ⟨y,r⟩⟩
  ·exact Asc.nil
  ·exact Asc.one _
  ·have:=congrArg List.length hs
   unfold seg at this
   rw [List.length_drop,List.length_take] at this
   simp at this; omega
 case round =>
  obtain ⟨i,l',rfl,hai,hib,hr,hk,hs⟩:=hrel
  have HR:=Lib.hid hr
  have HK:=Lib.hid hk
  have HS:=Lib.hid hs
  clear hr hk hs
  by_cases hi : i < b
  ·have di : decide ((i : Int) < (b : Int)) = true:=by simp; omega
   have HL' : Hid (l'.length = n):=HK.out.len.trans HN.out
   go_wp2
   go_loopw [7] (fun jv wr => ∃ (j : Nat) (lj : List α),jv = .int .i64 (j : Int)∧a≤j∧j≤i∧Row c t (w.alloc (.cells #[.func (.func F) #[] lb,.func (.func f) #[] sb] 190)) g lj wr∧InsRel lt l' a i j lj) (fun jv _ => (intOf jv).toNat)
   case atStart => exact ⟨i,l',rfl,by omega,by omega,HR.out,InsRel.start (by omega) (by rw [HL'.out]; omega) HS.out⟩
   case round =>
    obtain ⟨j,lj,rfl,haj,hji,hr,hins⟩:=hrel
    have hlj : lj.length = n:=hins.len.1.trans HL'.out
    have HLj:=Lib.hid hlj
    have HI:=Lib.hid hins
    have HRj:=Lib.hid hr
    have c0 : wr.cell? ⟨w.heap.size,0,none⟩ = some (.func (.func F) #[] lb):=(HRj.out.box (Blk.new w _ _) (by omega)).cell 0
    clear hr hins hlj
    have HPj : Hid (lj.Perm l0):=(HI.out.perm.perm.trans HK.out.perm).trans HP.out
    have HKj : Hid (Kept l lj a b):=HK.out.trans (HI.out.perm.wider (Nat.le_refl _) (by omega))
    by_cases hja : a < j
    ·have dj : decide ((a : Int) < (j : Int)) = true:=by simp; omega
     obtain ⟨x,y,hx,hy,hstep⟩:=HI.out.two hja
     have hl:=fun W (hW : Row c t (w.alloc (.cells #[.func (.func F) #[] lb,.func (.func f) #[] sb] 190)) g lj W) => HLe.out W lj j (j - 1) x y (HRow.out.trans hW.off) HPj.out hx hy
     rw [show (((j - 1 : Nat) : Int)) = (j : Int) - 1 from by omega] at hl
     have HL:=Lib.hid hl
     have HSt:=Lib.hid hstep
     have HX:=Lib.hid hx
     have HY:=Lib.hid hy
     clear hl hstep hx hy
     cases hlv : lt x y with
     | true =>
      rw [hlv] at HL
      go_wp2_with fail
      refine (HL.out _ HRj.out).mono ?_
      rintro e w2 ⟨rfl,hb2⟩
      have HR2:=Lib.hid (HRj.out.below hb2)
      have c1 : w2.cell? ⟨w.heap.size,1,none⟩ = some (.func (.func f) #[] sb):=(HR2.out.box (Blk.new w _ _) (by omega)).cell 1
      obtain ⟨W3,hrun,hrow3⟩:=HSw.out w2 lj j (j - 1) (HRow.out.trans HR2.out.off) HLj.out (by omega) (by omega) (by omega)
      rw [show (((j - 1 : Nat) : Int)) = (j : Int) - 1 from by omega] at hrun
      have HR3:=Lib.hid (HR2.out.trans hrow3)
      clear hrow3 hb2
      go_wp2
      go_roundw
      case rel => exact ⟨j - 1,swapL lj j (j - 1),by go_num,by omega,by omega,HR3.out,HSt.out hlv⟩
      case measure => simp [intOf]; omega
     | false =>
      rw [hlv] at HL
      go_wp2_with fail
      refine (HL.out _ HRj.out).mono ?_
      rintro e w2 ⟨rfl,hb2⟩
      have HR2:=Lib.hid (HRj.out.below hb2)
      clear hb2
      go_wp2
      go_roundw
      case rel => exact ⟨i + 1,lj,by go_num,by omega,by omega,HR2.out,HKj.out,HI.out.done HO.out (.inr ⟨x,y,HX.out,HY.out,hlv⟩)⟩
      case measure => simp [intOf]; omega
    ·have dj : decide ((a : Int) < (j : Int)) = false:=by simp; omega
     go_wp2
     go_roundw
     case rel => exact ⟨i + 1,lj,by go_num,by omega,by omega,HRj.out,HKj.out,HI.out.done HO.out (.inl (by omega))⟩
     case measure => simp [intOf]; omega
  ·have di : decide ((i : Int) < (b : Int)) = false:=by simp; omega
   go_wp2
   go_end0
   refine ⟨rfl,l',HR.out.off,HK.out,?_⟩
   rcases Nat.lt_or_ge b i with h | h
   ·rw [seg_empty l' (.inr (by omega))]; exact Asc.nil
   ·have e : b = i:=by omega
    rw [e]
    exact HS.out
end
end
section
open Go.RowKit
structure CellsOf (α : Type) where
 enc : α→List Value
 tail : List Value
section
variable {α : Type} {c : CellsOf α} {t : TypeId} {w0 : World} {g n f F : Nat} {sb lb : Array Value} {lt : α→α→Bool} {l0 : List α}
structure RowE (c : CellsOf α) (t : TypeId) (w0 : World) (g : Nat) (l : List α) (w : World) : Prop where
 blk : Blk w g t (l.flatMap c.enc ++ c.tail).toArray
 kept : w0.grownBy w (some g)
theorem RowE.self {l : List α} {w : World} (h : Blk w g t (l.flatMap c.enc ++ c.tail).toArray) : RowE c t w g l w:=⟨h,one_refl w g⟩
theorem RowE.trans {l l' : List α} {w w' : World} (h : RowE c t w0 g l w) (h' : RowE c t w g l' w') : RowE c t w0 g l' w':=⟨h'.blk,h.kept.trans h'.kept⟩
theorem RowE.alloc {l : List α} {w : World} (h : RowE c t w0 g l w) (o : Obj) : RowE c t w0 g l (w.alloc o):=⟨h.blk.alloc o,one_alloc h.kept o⟩
theorem RowE.below {l : List α} {w w' : World} (h : RowE c t w0 g l w) (hb : Below w.heap.size w w') : RowE c t w0 g l w' :=
 ⟨h.blk.below hb h.blk.lt,h.kept.trans ⟨hb.os,hb.tape,hb.output,hb.size,fun i hi _ => hb.block i hi⟩⟩
theorem RowE.off {l : List α} {w w' : World} {o : Obj} (h : RowE c t (w.alloc o) g l w') : RowE c t w g l w':=⟨h.blk,(grown_alloc w o (some g)).trans h.kept⟩
theorem RowE.box {l : List α} {w : World} {k : Nat} {tb : TypeId} {cs : Array Value} (h : RowE c t w0 g l w) (hB : Blk w0 k tb cs) (hk : k ≠ g) : Blk w k tb cs:=hB.kept h.kept (by simpa using hk)
def LessE (c : CellsOf α) (t : TypeId) (w0 : World) (g : Nat) (l0 : List α) (lt : α→α→Bool) (f : Nat) (lb : Array Value) : Prop :=
 ∀ (W : World) (l : List α) (i j : Nat) (x y : α),RowE c t w0 g l W→l.Perm l0→l[i]? = some x→l[j]? = some y →
  Calls Tryz.prog f (#[.int .i64 (i : Int),.int .i64 (j : Int)] ++ lb) W fun e w' => e = .returned (.bool (lt x y))∧Below W.heap.size W w'
def SwapAll (c : CellsOf α) (t : TypeId) (w0 : World) (g n : Nat) (f : Nat) (sb : Array Value) : Prop :=
 ∀ (W : World) (l : List α) (i j : Nat),RowE c t w0 g l W→l.length = n→i < n→j < n→2≤n →
  ∃ W',(callFunc f (#[.int .i64 (i : Int),.int .i64 (j : Int)] ++ sb)).run Tryz.prog W = .ok (.value (.tuple #[])) W'∧∃ l',l'.Perm l∧RowE c t W g l' W'
structure Srt (c : CellsOf α) (t : TypeId) (w0 : World) (g n f F : Nat) (sb lb : Array Value) (lt : α→α→Bool) (l0 : List α) : Prop where
 eg : ∀ args w,(callFunc F args).run Tryz.prog w = .ok (.enter F args) w
 le : LessE c t w0 g l0 lt F lb
 sw : SwapAll c t w0 g n f sb
 len : l0.length = n
 small : n≤1000000
def PRow (c : CellsOf α) (t : TypeId) (g : Nat) (l0 : List α) (B V : World) : Prop:=∃ l',RowE c t B g l' V∧l'.Perm l0
theorem PRow.trans {A B V : World} (h : PRow c t g l0 A B) (h' : PRow c t g l0 B V) : PRow c t g l0 A V:=by
 obtain ⟨l,h1,_⟩:=h
 obtain ⟨l',h2,h3⟩:=h'
 exact ⟨l',h1.trans h2,h3⟩
theorem PRow.self {A B : World} (h : PRow c t g l0 A B) : PRow c t g l0 B B:=by
 obtain ⟨l,h1,h2⟩:=h
 exact ⟨l,RowE.self h1.blk,h2⟩
theorem PRow.glt {A B : World} (h : PRow c t g l0 A B) : g < B.heap.size:=by
 obtain ⟨l,h1,_⟩:=h
 exact h1.blk.lt
theorem PRow.alloc {A B : World} (h : PRow c t g l0 A B) (o : Obj) : PRow c t g l0 A (B.alloc o):=by
 obtain ⟨l,h1,h2⟩:=h
 exact ⟨l,h1.alloc o,h2⟩
theorem PRow.off {A V : World} {o : Obj} (h : PRow c t g l0 (A.alloc o) V) : PRow c t g l0 A V:=by
 obtain ⟨l,h1,h2⟩:=h
 exact ⟨l,h1.off,h2⟩
theorem PRow.below {A V W : World} (h : PRow c t g l0 A V) (hb : Below V.heap.size V W) : PRow c t g l0 A W:=by
 obtain ⟨l,h1,h2⟩:=h
 exact ⟨l,h1.below hb,h2⟩
theorem PRow.box {A V : World} (h : PRow c t g l0 A V) {k : Nat} {tb : TypeId} {cs : Array Value} (hB : Blk A k tb cs) (hk : k ≠ g) : Blk V k tb cs:=by
 obtain ⟨l,h1,_⟩:=h
 exact h1.box hB hk
theorem PRow.size {A V : World} (h : PRow c t g l0 A V) : A.heap.size≤V.heap.size:=by
 obtain ⟨l,h1,_⟩:=h
 exact h1.kept.size
theorem Srt.less {B V : World} (H : Srt c t w0 g n f F sb lb lt l0) (hB : PRow c t g l0 w0 B) (hV : PRow c t g l0 B V) (i j : Nat) (hi : i < n) (hj : j < n) :
  Calls Tryz.prog F (#[.int .i64 (i : Int),.int .i64 (j : Int)] ++ lb) V fun e w' => ∃ k,e = .returned (.bool k)∧PRow c t g l0 B w':=by
 obtain ⟨l,h1,h2⟩:=hV
 obtain ⟨m,h3,_⟩:=hB
 have hl : l.length = n:=h2.length_eq.trans H.len
 obtain ⟨x,hx⟩ : ∃ x,l[i]? = some x:=⟨_,List.getElem?_eq_getElem (by omega)⟩
 obtain ⟨y,hy⟩ : ∃ y,l[j]? = some y:=⟨_,List.getElem?_eq_getElem (by omega)⟩
 refine (H.le V l i j x y (h3.trans h1) h2 hx hy).mono ?_
 rintro e w' ⟨rfl,hb⟩
 exact ⟨_,rfl,l,h1.below hb,h2⟩
theorem Srt.swap {B V : World} (H : Srt c t w0 g n f F sb lb lt l0) (hB : PRow c t g l0 w0 B) (hV : PRow c t g l0 B V) (i j : Nat) (hi : i < n) (hj : j < n) (hn2 : 2≤n) :
  ∃ W',(callFunc f (#[.int .i64 (i : Int),.int .i64 (j : Int)] ++ sb)).run Tryz.prog V = .ok (.value (.tuple #[])) W'∧PRow c t g l0 B W':=by
 obtain ⟨l,h1,h2⟩:=hV
 obtain ⟨m,h3,_⟩:=hB
 obtain ⟨W',hr,l',hp,hw⟩:=H.sw V l i j (h3.trans h1) (h2.length_eq.trans H.len) hi hj hn2
 exact ⟨W',hr,l',h1.trans hw,hp.trans h2⟩
set_option maxRecDepth 100000 in
set_option maxHeartbeats 4000000 in
theorem siftDown_any (H : Srt c t w0 g n f F sb lb lt l0) (lo hi first : Nat) (w : World) (hw : PRow c t g l0 w0 w) (hh : first + hi≤n) (hlo : lo≤n) :
  Calls Tryz.prog 267 #[.agg #[.func (.func F) #[] lb,.func (.func f) #[] sb],.int .i64 (lo : Int),.int .i64 (hi : Int),.int .i64 (first : Int)] w fun e w' => e = .returned (.tuple #[])∧PRow c t g l0 w w':=by
 have HH:=Lib.hid H
 have hgw : g < w.heap.size:=hw.glt
 obtain ⟨B,hB⟩ : ∃ B,B = w.alloc (.cells #[.func (.func F) #[] lb,.func (.func f) #[] sb] 190):=⟨_,rfl⟩
 have h0B : PRow c t g l0 w0 B:=by rw [hB]; exact hw.alloc _
 have hBB : PRow c t g l0 B B:=h0B.self
 have hBx : Blk B w.heap.size 190 #[.func (.func F) #[] lb,.func (.func f) #[] sb]:=by rw [hB]; exact Blk.new _ _ _
 have HOff : Hid (∀ V,PRow c t g l0 B V→PRow c t g l0 w V):=fun V h => by rw [hB] at h; exact h.off
 have HB0:=Lib.hid h0B
 have HC : Hid (∀ V,PRow c t g l0 B V→V.cell? ⟨w.heap.size,0,none⟩ = some (.func (.func F) #[] lb)∧V.cell? ⟨w.heap.size,1,none⟩ = some (.func (.func f) #[] sb)):=fun V h => ⟨(h.box hBx (by omega)).cell 0,(h.box hBx (by omega)).cell 1⟩
 have eg:=H.eg
 have hn6:=H.small
 have HW:=Lib.hid hB
 have HBB:=Lib.hid hBB
 clear hw hB h0B hBB hBx H
 go_enter Tryz.func267,Tryz.ntmps267
 go_upto_region 1 with fail
 simp only [← HW.out]
 go_upto_region 2 with fail
 go_loopw [8] (fun rv wr => ∃ r : Nat,rv = .int .i64 (r : Int)∧r≤n∧Hid (PRow c t g l0 B wr)) (fun rv _ => n - (intOf rv).toNat)
 case atStart => exact ⟨lo,rfl,hlo,HBB⟩
 case round =>
  obtain ⟨r,rfl,hr,HP⟩:=hrel
  obtain ⟨c0,c1⟩:=HC.out _ HP.out
  by_cases h1 : 2 * r + 1 < hi
  ·have d1 : decide ((hi : Int)≤2 * (r : Int) + 1) = false:=by simp; omega
   by_cases h2 : 2 * r + 1 + 1 < hi
   ·have d2 : decide (2 * (r : Int) + 1 + 1 < (hi : Int)) = true:=by simp; omega
    go_wp2_with fail
    have hl:=HH.out.less HB0.out HP.out (first + (2 * r + 1)) (first + (2 * r + 1) + 1) (by omega) (by omega)
    try push_cast at hl
    refine hl.mono ?_
    clear hl
    rintro en w4 ⟨k4,rfl,hp⟩
    have HP4:=Lib.hid hp
    obtain ⟨c0,c1⟩:=HC.out _ hp
    clear hp
    cases k4 with
    | true =>
     go_wp2_with fail
     have hl:=HH.out.less HB0.out HP4.out (first + r) (first + (2 * r + 1 + 1)) (by omega) (by omega)
     try push_cast at hl
     refine hl.mono ?_
     clear hl
     rintro en w5 ⟨k5,rfl,hp⟩
     have HP5:=Lib.hid hp
     obtain ⟨c0,c1⟩:=HC.out _ hp
     clear hp
     cases k5 with
     | false =>
      go_wp2
      first
       | go_end0
       | refine bodyPost_ret (results_none rfl _ _ _) rfl ?_
      exact ⟨rfl,HOff.out _ HP5.out⟩
     | true =>
      obtain ⟨w6,hrun,hp⟩:=HH.out.swap HB0.out HP5.out (first + r) (first + (2 * r + 1 + 1)) (by omega) (by omega) (by omega)
      try push_cast at hrun
      have HP6:=Lib.hid hp
      obtain ⟨c0',c1'⟩:=HC.out _ hp
      clear hp
      go_wp2
      go_roundw
      case rel => exact ⟨2 * r + 1 + 1,by go_num,by omega,HP6⟩
      case measure => simp [intOf]; omega
    | false =>
     go_wp2_with fail
     have hl:=HH.out.less HB0.out HP4.out (first + r) (first + (2 * r + 1)) (by omega) (by omega)
     try push_cast at hl
     refine hl.mono ?_
     clear hl
     rintro en w5 ⟨k5,rfl,hp⟩
     have HP5:=Lib.hid hp
     obtain ⟨c0,c1⟩:=HC.out _ hp
     clear hp
     cases k5 with
     | false =>
      go_wp2
      first
       | go_end0
       | refine bodyPost_ret (results_none rfl _ _ _) rfl ?_
      exact ⟨rfl,HOff.out _ HP5.out⟩
     | true =>
      obtain ⟨w6,hrun,hp⟩:=HH.out.swap HB0.out HP5.out (first + r) (first + (2 * r + 1)) (by omega) (by omega) (by omega)
      try push_cast at hrun
      have HP6:=Lib.hid hp
      obtain ⟨c0',c1'⟩:=HC.out _ hp
      clear hp
      go_wp2
      go_roundw
      case rel => exact ⟨2 * r + 1,by go_num,by omega,HP6⟩
      case measure => simp [intOf]; omega
   ·have d2 : decide (2 * (r : Int) + 1 + 1 < (hi : Int)) = false:=by simp; omega
    go_wp2_with fail
    have hl:=HH.out.less HB0.out HP.out (first + r) (first + (2 * r + 1)) (by omega) (by omega)
    try push_cast at hl
    refine hl.mono ?_
    clear hl
    rintro en w5 ⟨k5,rfl,hp⟩
    have HP5:=Lib.hid hp
    obtain ⟨c0,c1⟩:=HC.out _ hp
    clear hp
    cases k5 with
    | false =>
     go_wp2
     first
      | go_end0
      | refine bodyPost_ret (results_none rfl _ _ _) rfl ?_
     exact ⟨rfl,HOff.out _ HP5.out⟩
    | true =>
     obtain ⟨w6,hrun,hp⟩:=HH.out.swap HB0.out HP5.out (first + r) (first + (2 * r + 1)) (by omega) (by omega) (by omega)
     try push_cast at hrun
     have HP6:=Lib.hid hp
     obtain ⟨c0',c1'⟩:=HC.out _ hp
     clear hp
     go_wp2
     go_roundw
     case rel => exact ⟨2 * r + 1,by go_num,by omega,HP6⟩
     case measure => simp [intOf]; omega
  ·have d1 : decide ((hi : Int)≤2 * (r : Int) + 1) = true:=by simp; omega
   go_wp2
   first
    | go_end0
    | refine bodyPost_ret (results_none rfl _ _ _) rfl ?_
   exact ⟨rfl,HOff.out _ HP.out⟩
end
end
section
open Go.Shelf
def slRen : Ren :=
{
 f:=fun x =>
  match x with
  | 6 => 116
  | 10 => 120
  | 11 => 121
  | 12 => 123
  | 13 => 168
  | 14 => 169
  | 24 => 227
  | 25 => 228
  | 26 => 179
  | 27 => 229
  | 28 => 230
  | 29 => 231
  | 30 => 232
  | 31 => 233
  | 32 => 234
  | 33 => 235
  | 34 => 267
  | 35 => 268
  | 36 => 269
  | 37 => 270
  | 38 => 271
  | 39 => 279
  | n => n,
 t:=fun x =>
  match x with
  | 20 => 20
  | 26 => 147
  | 35 => 184
  | 0 => 0
  | 37 => 186
  | 3 => 3
  | 41 => 53
  | 44 => 190
  | 49 => 130
  | 51 => 55
  | 4 => 4
  | 54 => 272
  | 53 => 271
  | 58 => 252
  | 5 => 5
  | 9 => 9
  | 60 => 297
  | 64 => 301
  | 66 => 307
  | 67 => 308
  | 17 => 17
  | 32 => 181
  | 33 => 182
  | 82 => 323
  | 12 => 12
  | 75 => 316
  | 76 => 317
  | 77 => 318
  | 78 => 319
  | 79 => 320
  | 80 => 321
  | n => n,
 g:=fun n => n }
theorem slLays : LaysGg.n6 Tryz.prog slRen where
 mixed:=by kernel_rfl
 f6:=Eq.trans Tryz.func116 (by kernel_rfl)
 f10:=Eq.trans Tryz.func120 (by kernel_rfl)
 f11:=Eq.trans Tryz.func121 (by kernel_rfl)
 f12:=Eq.trans Tryz.func123 (by kernel_rfl)
 f13:=Eq.trans Tryz.func168 (by kernel_rfl)
 f14:=Eq.trans Tryz.func169 (by kernel_rfl)
 f24:=Eq.trans Tryz.func227 (by kernel_rfl)
 f25:=Eq.trans Tryz.func228 (by kernel_rfl)
 f26:=Eq.trans Tryz.func179 (by kernel_rfl)
 f27:=Eq.trans Tryz.func229 (by kernel_rfl)
 f28:=Eq.trans Tryz.func230 (by kernel_rfl)
 f29:=Eq.trans Tryz.func231 (by kernel_rfl)
 f30:=Eq.trans Tryz.func232 (by kernel_rfl)
 f31:=Eq.trans Tryz.func233 (by kernel_rfl)
 f32:=Eq.trans Tryz.func234 (by kernel_rfl)
 f33:=Eq.trans Tryz.func235 (by kernel_rfl)
 f34:=Eq.trans Tryz.func267 (by kernel_rfl)
 f35:=Eq.trans Tryz.func268 (by kernel_rfl)
 f36:=Eq.trans Tryz.func269 (by kernel_rfl)
 f37:=Eq.trans Tryz.func270 (by kernel_rfl)
 f38:=Eq.trans Tryz.func271 (by kernel_rfl)
 f39:=Eq.trans Tryz.func279 (by kernel_rfl)
 t0:=Tryz.underlying0
 a0:=Tryz.isAgg0
 z0:=Tryz.sizeOf0
 v0:=Tryz.zeroValue0
 i0:=by kernel_rfl
 t3:=Tryz.underlying3
 a3:=Tryz.isAgg3
 z3:=Tryz.sizeOf3
 v3:=Tryz.zeroValue3
 i3:=by kernel_rfl
 t4:=Tryz.underlying4
 a4:=Tryz.isAgg4
 z4:=Tryz.sizeOf4
 v4:=Tryz.zeroValue4
 i4:=by kernel_rfl
 t5:=Tryz.underlying5
 a5:=Tryz.isAgg5
 z5:=Tryz.sizeOf5
 v5:=Tryz.zeroValue5
 i5:=by kernel_rfl
 t9:=Tryz.underlying9
 a9:=Tryz.isAgg9
 z9:=Tryz.sizeOf9
 v9:=Tryz.zeroValue9
 i9:=by kernel_rfl
 t12:=Tryz.underlying12
 a12:=Tryz.isAgg12
 z12:=Tryz.sizeOf12
 v12:=Tryz.zeroValue12
 i12:=by kernel_rfl
 t17:=Tryz.underlying17
 a17:=Tryz.isAgg17
 z17:=Tryz.sizeOf17
 v17:=Tryz.zeroValue17
 i17:=by kernel_rfl
 t20:=Tryz.underlying20
 a20:=Tryz.isAgg20
 z20:=Tryz.sizeOf20
 v20:=Tryz.zeroValue20
 i20:=by kernel_rfl
 t26:=Tryz.underlying147
 a26:=Tryz.isAgg147
 z26:=Tryz.sizeOf147
 v26:=Tryz.zeroValue147
 i26:=by kernel_rfl
 t32:=Tryz.underlying181
 a32:=Tryz.isAgg181
 z32:=Tryz.sizeOf181
 v32:=Tryz.zeroValue181
 i32:=by kernel_rfl
 t33:=Tryz.underlying182
 a33:=Tryz.isAgg182
 z33:=Tryz.sizeOf182
 v33:=Tryz.zeroValue182
 i33:=by kernel_rfl
 t35:=Tryz.underlying184
 a35:=Tryz.isAgg184
 z35:=Tryz.sizeOf184
 v35:=Tryz.zeroValue184
 i35:=by kernel_rfl
 t37:=Tryz.underlying186
 a37:=Tryz.isAgg186
 z37:=Tryz.sizeOf186
 v37:=Tryz.zeroValue186
 i37:=by kernel_rfl
 t41:=Tryz.underlying53
 a41:=Tryz.isAgg53
 z41:=Tryz.sizeOf53
 v41:=Tryz.zeroValue53
 i41:=by kernel_rfl
 t44:=Tryz.underlying190
 a44:=Tryz.isAgg190
 z44:=Tryz.sizeOf190
 v44:=Tryz.zeroValue190
 i44:=by kernel_rfl
 t49:=Tryz.underlying130
 a49:=Tryz.isAgg130
 z49:=Tryz.sizeOf130
 v49:=Tryz.zeroValue130
 i49:=by kernel_rfl
 t51:=Tryz.underlying55
 a51:=Tryz.isAgg55
 z51:=Tryz.sizeOf55
 v51:=Tryz.zeroValue55
 i51:=by kernel_rfl
 t53:=Tryz.underlying271
 a53:=Tryz.isAgg271
 z53:=Tryz.sizeOf271
 v53:=Tryz.zeroValue271
 i53:=by kernel_rfl
 t54:=Tryz.underlying272
 a54:=Tryz.isAgg272
 z54:=Tryz.sizeOf272
 v54:=Tryz.zeroValue272
 i54:=by kernel_rfl
 t58:=Tryz.underlying252
 a58:=Tryz.isAgg252
 z58:=Tryz.sizeOf252
 v58:=Tryz.zeroValue252
 i58:=by kernel_rfl
 t60:=Tryz.underlying297
 a60:=Tryz.isAgg297
 z60:=Tryz.sizeOf297
 v60:=Tryz.zeroValue297
 i60:=by kernel_rfl
 t64:=Tryz.underlying301
 a64:=Tryz.isAgg301
 z64:=Tryz.sizeOf301
 v64:=Tryz.zeroValue301
 i64:=by kernel_rfl
 t66:=Tryz.underlying307
 a66:=Tryz.isAgg307
 z66:=Tryz.sizeOf307
 v66:=Tryz.zeroValue307
 i66:=by kernel_rfl
 t67:=Tryz.underlying308
 a67:=Tryz.isAgg308
 z67:=Tryz.sizeOf308
 v67:=Tryz.zeroValue308
 i67:=by kernel_rfl
 t75:=Tryz.underlying316
 a75:=Tryz.isAgg316
 z75:=Tryz.sizeOf316
 v75:=Tryz.zeroValue316
 i75:=by kernel_rfl
 t76:=Tryz.underlying317
 a76:=Tryz.isAgg317
 z76:=Tryz.sizeOf317
 v76:=Tryz.zeroValue317
 i76:=by kernel_rfl
 t77:=Tryz.underlying318
 a77:=Tryz.isAgg318
 z77:=Tryz.sizeOf318
 v77:=Tryz.zeroValue318
 i77:=by kernel_rfl
 t78:=Tryz.underlying319
 a78:=Tryz.isAgg319
 z78:=Tryz.sizeOf319
 v78:=Tryz.zeroValue319
 i78:=by kernel_rfl
 t79:=Tryz.underlying320
 a79:=Tryz.isAgg320
 z79:=Tryz.sizeOf320
 v79:=Tryz.zeroValue320
 i79:=by kernel_rfl
 t80:=Tryz.underlying321
 a80:=Tryz.isAgg321
 z80:=Tryz.sizeOf321
 v80:=Tryz.zeroValue321
 i80:=by kernel_rfl
 t82:=Tryz.underlying323
 a82:=Tryz.isAgg323
 z82:=Tryz.sizeOf323
 v82:=Tryz.zeroValue323
 i82:=by kernel_rfl
end
end Go.Proofs.YtadllffeoibelaaGreat
