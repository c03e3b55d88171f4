/-
  What these parts of the proof come to, functions walked and plain laws: In1, Asc3. No condition.
-/
import Derived.Test.YtadllffeoibelaaGreatS19
import Derived.Test.YtadllffeoibelaaGreatS23
import Derived.Test.YtadllffeoibelaaGreatS11
import Derived.Test.YtadllffeoibelaaGreatS9
namespace Go.Proofs.YtadllffeoibelaaGreat
section
open Go.RowKit Go.Shelf
section
variable {α : Type} {c : CellsOf α} {t : TypeId} {w0 : World} {g n f F : Nat} {sb lb : Array Value} {lt : α→α→Bool} {l0 : List α}
def SwapE (c : CellsOf α) (t : TypeId) (w0 : World) (g n : Nat) (f : Nat) (sb : Array Value) : Prop :=
 ∀ (W : World) (l : List α) (i j : Nat),RowE c t w0 g l W→l.length = n→i < n→j < n→i ≠ j →
  ∃ W',(callFunc f (#[.int .i64 (i : Int),.int .i64 (j : Int)] ++ sb)).run Tryz.prog W = .ok (.value (.tuple #[])) W'∧RowE c t W g (swapL l i j) W'
def SortE (c : CellsOf α) (t : TypeId) (g : Nat) (lt : α→α→Bool) (l : List α) (a b : Nat) (w : World) (e : Ending) (w' : World) : Prop :=
 e = .returned (.tuple #[])∧∃ l',RowE c t w g l' w'∧Kept l l' a b∧Asc lt (seg l' a b)
set_option maxRecDepth 100000 in
set_option maxHeartbeats 2000000 in
theorem insertE_any (eg : ∀ args w,(callFunc F args).run Tryz.prog w = .ok (.enter F args) w) (ho : Ord lt) (hle : LessE c t w0 g l0 lt F lb) (hsw : SwapE c t w0 g n f sb) (a b : Nat) (l : List α) (w : World) (hrow : RowE c t w0 g l w) (hp : l.Perm l0) (hn : l.length = n) (hsmall : n≤1000000)
  (hab : a≤b) (hb : b≤n) :
  Calls Tryz.prog 179 #[.agg #[.func (.func F) #[] lb,.func (.func f) #[] sb],.int .i64 (a : Int),.int .i64 (b : Int)] w (SortE c t g lt l a b w):=by
 have HO:=Lib.hid ho; clear ho
 have HLe:=Lib.hid hle; clear hle
 have HSw:=Lib.hid hsw; clear hsw
 have HRow:=Lib.hid hrow; clear hrow
 have HP:=Lib.hid hp; clear hp
 have HN:=Lib.hid hn; clear hn
 have hgw : g < w.heap.size:=HRow.out.blk.lt
 go_enter Tryz.func179,Tryz.ntmps179
 go_wp2
 go_loopw [6] (fun iv wr => ∃ (i : Nat) (l' : List α),iv = .int .i64 (i : Int)∧a < i∧(i≤b∨b = a)∧RowE c t (w.alloc (.cells #[.func (.func F) #[] lb,.func (.func f) #[] sb] 190)) g l' wr∧Kept l l' a b∧Asc lt (seg l' a i)) (fun iv _ => b + 1 - (intOf iv).toNat)
 case atStart =>
  refine ⟨a + 1,l,by go_num,by omega,by omega,RowE.self (HRow.out.blk.alloc _),Kept.refl _ _ _,?_⟩
  rcases hs : seg l a (a + 1) with _ | ⟨x,_ | ⟨y,r⟩⟩
  ·exact Asc.nil
  ·exact Asc.one _
  ·have:=congrArg List.length hs
   unfold seg at this
   rw [List.length_drop,List.length_take] at this
   simp at this; omega
 case round =>
  obtain ⟨i,l',rfl,hai,hib,hr,hk,hs⟩:=hrel
  have HR:=Lib.hid hr
  have HK:=Lib.hid hk
  have HS:=Lib.hid hs
  clear hr hk hs
  by_cases hi : i < b
  ·have di : decide ((i : Int) < (b : Int)) = true:=by simp; omega
   have HL' : Hid (l'.length = n):=HK.out.len.trans HN.out
   go_wp2
   go_loopw [7] (fun jv wr => ∃ (j : Nat) (lj : List α),jv = .int .i64 (j : Int)∧a≤j∧j≤i∧RowE c t (w.alloc (.cells #[.func (.func F) #[] lb,.func (.func f) #[] sb] 190)) g lj wr∧InsRel lt l' a i j lj) (fun jv _ => (intOf jv).toNat)
   case atStart => exact ⟨i,l',rfl,by omega,by omega,HR.out,InsRel.start (by omega) (by rw [HL'.out]; omega) HS.out⟩
   case round =>
    obtain ⟨j,lj,rfl,haj,hji,hr,hins⟩:=hrel
    have hlj : lj.length = n:=hins.len.1.trans HL'.out
    have HLj:=Lib.hid hlj
    have HI:=Lib.hid hins
    have HRj:=Lib.hid hr
    have c0 : wr.cell? ⟨w.heap.size,0,none⟩ = some (.func (.func F) #[] lb):=(HRj.out.box (Blk.new w _ _) (by omega)).cell 0
    clear hr hins hlj
    have HPj : Hid (lj.Perm l0):=(HI.out.perm.perm.trans HK.out.perm).trans HP.out
    have HKj : Hid (Kept l lj a b):=HK.out.trans (HI.out.perm.wider (Nat.le_refl _) (by omega))
    by_cases hja : a < j
    ·have dj : decide ((a : Int) < (j : Int)) = true:=by simp; omega
     obtain ⟨x,y,hx,hy,hstep⟩:=HI.out.two hja
     have hl:=fun W (hW : RowE c t (w.alloc (.cells #[.func (.func F) #[] lb,.func (.func f) #[] sb] 190)) g lj W) => HLe.out W lj j (j - 1) x y (HRow.out.trans hW.off) HPj.out hx hy
     rw [show (((j - 1 : Nat) : Int)) = (j : Int) - 1 from by omega] at hl
     have HL:=Lib.hid hl
     have HSt:=Lib.hid hstep
     have HX:=Lib.hid hx
     have HY:=Lib.hid hy
     clear hl hstep hx hy
     cases hlv : lt x y with
     | true =>
      rw [hlv] at HL
      go_wp2_with fail
      refine (HL.out _ HRj.out).mono ?_
      rintro e w2 ⟨rfl,hb2⟩
      have HR2:=Lib.hid (HRj.out.below hb2)
      have c1 : w2.cell? ⟨w.heap.size,1,none⟩ = some (.func (.func f) #[] sb):=(HR2.out.box (Blk.new w _ _) (by omega)).cell 1
      obtain ⟨W3,hrun,hrow3⟩:=HSw.out w2 lj j (j - 1) (HRow.out.trans HR2.out.off) HLj.out (by omega) (by omega) (by omega)
      rw [show (((j - 1 : Nat) : Int)) = (j : Int) - 1 from by omega] at hrun
      have HR3:=Lib.hid (HR2.out.trans hrow3)
      clear hrow3 hb2
      go_wp2
      go_roundw
      case rel => exact ⟨j - 1,swapL lj j (j - 1),by go_num,by omega,by omega,HR3.out,HSt.out hlv⟩
      case measure => simp [intOf]; omega
     | false =>
      rw [hlv] at HL
      go_wp2_with fail
      refine (HL.out _ HRj.out).mono ?_
      rintro e w2 ⟨rfl,hb2⟩
      have HR2:=Lib.hid (HRj.out.below hb2)
      clear hb2
      go_wp2
      go_roundw
      case rel => exact ⟨i + 1,lj,by go_num,by omega,by omega,HR2.out,HKj.out,HI.out.done HO.out (.inr ⟨x,y,HX.out,HY.out,hlv⟩)⟩
      case measure => simp [intOf]; omega
    ·have dj : decide ((a : Int) < (j : Int)) = false:=by simp; omega
     go_wp2
     go_roundw
     case rel => exact ⟨i + 1,lj,by go_num,by omega,by omega,HRj.out,HKj.out,HI.out.done HO.out (.inl (by omega))⟩
     case measure => simp [intOf]; omega
  ·have di : decide ((i : Int) < (b : Int)) = false:=by simp; omega
   go_wp2
   go_end0
   refine ⟨rfl,l',HR.out.off,HK.out,?_⟩
   rcases Nat.lt_or_ge b i with h | h
   ·rw [seg_empty l' (.inr (by omega))]; exact Asc.nil
   ·have e : b = i:=by omega
    rw [e]
    exact HS.out
set_option maxRecDepth 100000 in
set_option maxHeartbeats 4000000 in
theorem pdqE_any (eg : ∀ args w,(callFunc F args).run Tryz.prog w = .ok (.enter F args) w) (ho : Ord lt) (hle : LessE c t w0 g l0 lt F lb) (hsw : SwapE c t w0 g n f sb) (l : List α) (w : World) (hrow : RowE c t w0 g l w) (hp : l.Perm l0) (hn : l.length = n) (hsmall : n≤12) (L : Int) :
  Calls Tryz.prog 169 #[.agg #[.func (.func F) #[] lb,.func (.func f) #[] sb],.int .i64 0,.int .i64 (n : Int),.int .i64 L] w (SortE c t g lt l 0 n w):=by
 obtain ⟨B,hB⟩ : ∃ B,B = w.alloc (.cells #[.func (.func F) #[] lb,.func (.func f) #[] sb] 190):=⟨_,rfl⟩
 have hrB : RowE c t w0 g l B:=by rw [hB]; exact hrow.alloc _
 have hBx : Blk B w.heap.size 190 #[.func (.func F) #[] lb,.func (.func f) #[] sb]:=by rw [hB]; exact Blk.new _ _ _
 have HI:=Lib.hid (insertE_any eg ho hle hsw 0 n l B hrB hp hn (by omega) (Nat.zero_le _) (Nat.le_refl _))
 have HOff : Hid (∀ V l',RowE c t B g l' V→RowE c t w g l' V):=fun V l' h => by rw [hB] at h; exact h.off
 have c0 : B.cell? ⟨w.heap.size,0,none⟩ = some (.func (.func F) #[] lb):=hBx.cell 0
 have c1 : B.cell? ⟨w.heap.size,1,none⟩ = some (.func (.func f) #[] sb):=hBx.cell 1
 have HB:=Lib.hid hB
 clear eg ho hle hsw hrow hp hn hB hrB hBx
 have d12 : decide ((n : Int)≤12) = true:=by simp; omega
 have d12' : decide ((n : Int) - 0≤12) = true:=by simp; omega
 go_enter Tryz.func169,Tryz.ntmps169
 go_upto_region 1 with fail
 simp only [← HB.out]
 go_upto_region 3 with fail
 go_loopw [1,2,3,8,9] (fun av bv lv xv yv wr => av = .int .i64 0∧bv = .int .i64 (n : Int)∧lv = .int .i64 L∧xv = .bool true∧yv = .bool true∧wr = B) (fun _ _ _ _ _ _ => 0)
 case atStart => exact ⟨rfl,rfl,rfl,rfl,rfl,rfl⟩
 case round =>
  obtain ⟨rfl,rfl,rfl,rfl,rfl,hwr⟩:=hrel
  subst hwr
  go_wp2_with fail
  refine HI.out.mono ?_
  rintro en w2 ⟨rfl,l',h1,h2⟩
  go_wp2
  refine bodyPost_ret (results_none rfl _ _ _) rfl ?_
  exact ⟨rfl,l',HOff.out _ _ h1,h2⟩
end
theorem swapE_lit {α : Type} [Inhabited α] (n cap : Nat) {c : CellsOf α} {m g : Nat} {e : TypeId} {f : Nat} {gS : Bool} (H : Lit c.enc m e f gS) (t : TypeId) (w0 : World) : SwapE c t w0 g n f #[.slice (some ⟨g,0,none⟩) n cap,typeHandle Tryz.prog e]:=by
 intro W l i j hr hn hi hj _
 have hi' : i < l.length:=by omega
 have hj' : j < l.length:=by omega
 have hm:=H.len
 have hrun:=lit_run (g:=g) (n:=n) (cap:=cap) H W l i j hi' hj' hi hj (fun k u z v => row_cell hm hr.blk k u z v) (fun k _ u _ => hr.blk.frozen _)
 obtain ⟨b1,k1⟩:=put_elem hm hr.blk i l[j] hi'
 obtain ⟨b2,k2⟩:=put_elem hm b1 j l[i] (by rw [List.length_set]; exact hj')
 refine ⟨_,by rw [hrun,Nat.zero_add,Nat.zero_add],?_,k1.trans k2⟩
 unfold swapL
 rw [List.getElem?_eq_getElem hi',List.getElem?_eq_getElem hj']
 exact b2
set_option maxRecDepth 100000 in
theorem sliceE_any {α : Type} [Inhabited α] {F : Nat} {lb : Array Value} {lt : α→α→Bool} {t e : TypeId} {m : Nat} (S : SlT t e m) (c : CellsOf α) (hl : ∀ x,(c.enc x).length = m) (h1 : ∀ x,∀ v ∈ c.enc x,v.oneCell' = true) (ho : Ord lt)
  (eg : ∀ args w,(callFunc F args).run Tryz.prog w = .ok (.enter F args) w) (l : List α) (g n cap : Nat) (w : World) (hle : LessE c e w g l lt F lb) (hblk : Blk w g e (l.flatMap c.enc ++ c.tail).toArray) (hn : l.length = n) (hsm : n≤12) :
  Calls Tryz.prog 116 #[.iface t (.slice (some ⟨g,0,none⟩) n cap),.func (.func F) #[] lb] w fun e' w' => e' = .returned (.tuple #[])∧∃ l',RowE c e w g l' w'∧l'.Perm l∧Asc lt l':=by
 obtain ⟨i,hi,hd⟩:=S.info
 obtain ⟨ie,h2,h3,h4⟩:=S.elem
 have hrow : RowE c e w g l (sliceWorld Tryz.prog slRen t (some ⟨g,0,none⟩) n cap w):=((RowE.self hblk).alloc _).alloc _
 have H9:=lit_nine (enc:=c.enc) S hl h1
 have fin : ∀ e' w',SortE c e g lt l 0 n (sliceWorld Tryz.prog slRen t (some ⟨g,0,none⟩) n cap w) e' w'→e' = .returned (.tuple #[])∧∃ l',RowE c e w g l' w'∧l'.Perm l∧Asc lt l':=fun e' w' h => by
  obtain ⟨h5,l',h6,h7,h8⟩:=h
  refine ⟨h5,l',hrow.trans h6,h7.perm,?_⟩
  have hl' : l'.length = n:=h7.perm.length_eq.trans hn
  have e1 : seg l' 0 n = l':=by unfold seg; rw [List.drop_zero,List.take_of_length_le (by omega)]
  rwa [e1] at h8
 refine Any.sort_Slice_of_pdq slLays t e i ie hi hd S.packed h2 25 S.kind (some ⟨g,0,none⟩) n cap (by omega) (litOf n) (lit_found h4 n) (.func F) #[] lb w (fun w' => ∃ l',RowE c e w g l' w'∧l'.Perm l∧Asc lt l') ?_
 by_cases h : 2≤n
 ·have e1 : litOf n = 178:=by unfold litOf; rw [if_neg (by omega),if_neg (by omega)]
  have e2 : sliceBound Tryz.prog e ie 25 (some ⟨g,0,none⟩) n cap = #[.slice (some ⟨g,0,none⟩) n cap,typeHandle Tryz.prog e]:=by unfold sliceBound; rw [h4 n h]; rfl
  rw [e1,e2]
  exact (pdqE_any (w0:=w) (n:=n) eg ho hle (swapE_lit n cap H9 e w) l _ hrow (List.Perm.refl _) hn hsm _).mono fin
 ·exact (pdqE_any (w0:=w) (n:=n) eg ho hle (fun _ _ i j _ _ hi hj hne => absurd hne (by omega)) l _ hrow (List.Perm.refl _) hn hsm _).mono fin
end
section
open Go.RowKit Go.Shelf
attribute [local go_sem ↓] Go.wp_at_zero Go.wp_at_succ loadNm loadVt loadSg loadEv
attribute [local go_sem] runNm runVt runSg runEv pickRow_some rowAt_drew rowAt_drewN
def ascF (p : Nm) (l : List Vt) : List Vt:=(canF ((l.filter fun s => decide (s.parent = p)).map fun v => (v,([] : List UInt8)))).map (·.1)
theorem lessS_nil (a b : Vt) : lessS (a,([] : List UInt8)) (b,[]) = lessV a b:=by
 unfold lessS
 by_cases h : a = b
 ·subst h
  rw [if_pos rfl,lessV_irrefl]
  rfl
 ·rw [if_neg h]
theorem ordV : Ord lessV:=⟨fun _ _ h => lessV_asymm h,fun x y z h h' => by
 rw [← lessS_nil] at h h' ⊢
 exact lessS_ord.trans _ _ _ h h'⟩
theorem thin_asc {p : Nm} {l s : List Vt} (hp : s.Perm (l.filter fun s => decide (s.parent = p))) (hs : Asc lessV s) : thin id s s.length = ascF p l:=by
 have h1:=thin_map (f:=id) (f':=Prod.fst) (k:=fun v : Vt => (v,([] : List UInt8))) (fun _ => rfl) s s.length
 have h2:=thin_all (l:=(l.filter fun s => decide (s.parent = p)).map fun v => (v,([] : List UInt8))) (s:=s.map fun v => (v,([] : List UInt8))) (hp.map _) (by
  unfold Asc at hs ⊢
  rw [List.pairwise_map]
  exact hs.imp fun h => by rw [lessS_nil]; exact h)
 rw [List.length_map] at h2
 unfold ascF
 rw [← h2,← h1,List.map_map]
 exact (List.map_id' _).symm
def AscRelE (l : List Vt) (p : Nm) (w : World) (q pb : Nat) (iv : Value) (wr : World) : Prop :=
 ∃ (i : Nat) (v : Value) (D : List Vt),iv = .int .i64 (i : Int)∧i≤l.length∧D.length≤i∧D = (l.take i).filter (fun s => decide (s.parent = p))∧wr.ownsRow w.heap.size 46 22 v D.length (D.flatMap vtc)∧Below w.heap.size w wr∧Blk wr q 24 p.cells∧Blk wr pb 56 #[v]
def AscThinE (D : List Vt) (w3 : World) (v iv : Value) (wr : World) : Prop :=
 ∃ (i : Nat) (O : List Vt),iv = .int .i64 (i : Int)∧i≤D.length∧O.length≤i∧O = thin id D i∧wr.ownsRow w3.heap.size 46 22 v O.length (O.flatMap vtc)∧Below w3.heap.size w3 wr
def AscMidE (D : List Vt) (w : World) (pb : Nat) (v : Value) (e : Ending) (w3 : World) : Prop :=
 e = .returned (.tuple #[])∧Blk w3 pb 56 #[v]∧Below w.heap.size w w3∧∃ (l3 : List Vt) (A : Option Addr) (c : Nat),v = .slice A l3.length c∧l3.Perm D∧Asc lessV l3∧Rd w3 w3.heap.size A (l3.flatMap vtc)
set_option maxRecDepth 100000 in
set_option maxHeartbeats 8000000 in
theorem asc_midE (w W : World) (pb : Nat) (v : Value) (D : List Vt) (hown : W.ownsRow w.heap.size 46 22 v D.length (D.flatMap vtc)) (hb : Below w.heap.size w W) (hpb : Blk W pb 56 #[v]) (hsm : D.length≤12) :
  Calls Tryz.prog 116 #[.iface 56 v,.func (.func 221) #[] #[.pointer (some ⟨pb,0,none⟩)]] W (AscMidE D w pb v):=by
 rcases own_tail hown with ⟨rfl,h0,_⟩ | ⟨g,cap,T,rfl,hg,hblk,hcap⟩
 ·refine (slice_nil slT_vote 0 W).mono ?_
  rintro e w3 ⟨rfl,hb3⟩
  have hD : D = []:=List.eq_nil_of_length_eq_zero h0
  subst hD
  exact ⟨rfl,hpb.below hb3 hpb.lt,hb.trans (hb3.mono hb.size),[],none,0,rfl,List.Perm.refl _,Asc.nil,Rd.nil⟩
 ·have hne : pb ≠ g:=by
   intro e
   subst e
   unfold Blk at hpb hblk
   rw [hpb] at hblk
   injection hblk with hh
   injection hh with _ ht
   exact absurd ht (by decide)
  refine (sliceE_any slT_vote ⟨vtc,T⟩ (fun _ => rfl) (fun x v hv => one_vt x hv) ordV (fun args W => enters_asc args W) D g D.length cap W (ascLess_on T pb g D.length cap D W hpb hne rfl) hblk rfl hsm).mono ?_
  rintro e w3 ⟨rfl,l3,hr3,hp3,ha3⟩
  refine ⟨rfl,hr3.box hpb hne,hb.grown hr3.kept hb.size (fun k hk => by injection hk with hk; subst hk; exact hg),l3,_,cap,by rw [hp3.length_eq],hp3,ha3,?_⟩
  refine Rd.mk hr3.blk.lt fun j u hu => ?_
  rw [hr3.blk.cell,Nat.zero_add,List.getElem?_toArray]
  show (l3.flatMap vtc ++ T)[j]? = some u
  rw [List.getElem?_append_left (List.getElem?_eq_some_iff.1 hu).1,hu]
set_option maxRecDepth 100000 in
set_option maxHeartbeats 8000000 in
theorem ascE_any (p : Nm) (A : Option Addr) (n c : Nat) (l : List Vt) (w : World) (hn : l.length = n) (hr : Rd w w.heap.size A (l.flatMap vtc)) (hsm : n≤1000000) (h12 : (l.filter fun s => decide (s.parent = p)).length≤12) :
  Calls Tryz.prog 166 #[p.val,.slice A n c] w fun e w' => ∃ (v : Value),e = .returned v∧w'.ownsRow w.heap.size 46 22 v (ascF p l).length ((ascF p l).flatMap vtc)∧Below w.heap.size w w':=by
 have HN:=Lib.hid hn
 have HR:=Lib.hid hr
 have HMid:=Lib.hid (fun W pb v D h1 h2 h3 h4 => asc_midE w W pb v D h1 h2 h3 h4)
 clear hn hr
 go_enter Tryz.func166,Tryz.ntmps166
 go_upto_region 2 with fail
 obtain ⟨w1,hw1⟩ : ∃ w1,w1 = (w.alloc (.cells p.cells 24)).alloc (.cells #[.slice none 0 0] 56):=⟨_,rfl⟩
 rw [← hw1]
 have hbw1 : Below w.heap.size w w1:=by rw [hw1]; exact ((Below.refl _ _).alloc (Nat.le_refl _) _).alloc (by simp) _
 have HB1 : Hid (Blk w1 w.heap.size 24 p.cells):=by
  unfold Hid
  rw [hw1]; exact (Blk.new w _ _).alloc _
 have HB2 : Hid (Blk w1 (w.heap.size + 1) 56 #[.slice none 0 0]):=by
  unfold Hid
  rw [hw1]
  have:=Blk.new (w.alloc (.cells p.cells 24)) 56 #[.slice none 0 0]
  simpa using this
 clear hw1
 obtain ⟨q,hq⟩ : ∃ q,q = w.heap.size:=⟨_,rfl⟩
 obtain ⟨pb,hpb⟩ : ∃ pb,pb = w.heap.size + 1:=⟨_,rfl⟩
 rw [← hpb,← hq]
 rw [← hpb] at HB2
 rw [← hq] at HB1
 have hqp : q ≠ pb:=by omega
 have hqw : w.heap.size≤q:=by omega
 have hpw : w.heap.size≤pb:=by omega
 clear hq hpb
 go_wp2
 go_loopw [13] (fun iv wr => AscRelE l p w q pb iv wr) (fun iv _ => n - (intOf iv).toNat)
 case atStart => exact ⟨0,_,[],rfl,Nat.zero_le _,Nat.zero_le _,by simp,⟨by simp,.inl ⟨rfl,rfl⟩⟩,hbw1,HB1.out,HB2.out⟩
 case round =>
  clear hbw1 HB1 HB2
  obtain ⟨i,v,D,rfl,hin,hDi,hD,hown,hbw,hBq,hBp⟩:=hrel
  rw [HN.out] at hin
  have HD:=Lib.hid hD
  have HOwn:=Lib.hid hown
  have HBq:=Lib.hid hBq
  have HBp:=Lib.hid hBp
  have y1 : rowAt wr q 0 8 = some p.cells:=hBq.row 8 rfl
  have y2 : wr.cell? ⟨pb,0,none⟩ = some v:=hBp.cell 0
  have hqr : q < wr.heap.size:=hBq.lt
  have hpr : pb < wr.heap.size:=hBp.lt
  clear hD hown hBq hBp
  by_cases hi : i < n
  ·have di : decide ((i : Int) < (n : Int)) = true:=by simp; omega
   obtain ⟨x,hx⟩ : ∃ x,l[i]? = some x:=⟨_,List.getElem?_eq_getElem (by rw [HN.out]; exact hi)⟩
   obtain ⟨b,o,rfl,hb,hcell⟩:=HR.out.cells (by intro e; have:=flat_length vtc 22 l (vtc_len l); rw [e,HN.out] at this; simp at this; omega)
   clear hcell
   have x1 : rowAt wr b (o + i * 22) 22 = some x.cells:=(HR.out.below hbw).voteRow hx
   have HStep : Hid ((l.take (i + 1)).filter (fun s => decide (s.parent = p)) = (l.take i).filter (fun s => decide (s.parent = p)) ++ (if x.parent = p then [x] else [])):=by
    unfold Hid
    rw [List.take_add_one,hx,List.filter_append]
    by_cases h : x.parent = p <;> simp [h]
   clear hx
   go_upto_region 5 with (refine wpList_store_blk rfl 46 (.tmp 7) (.tmp 16) rfl wr.heap.size x.cells rfl rfl 46 zeroV.cells (Blk.new wr _ _) (by rfl) (by kernel_rfl) (fun u hu => one_vt x hu) ?_; intro w4 hB4 hg4 hsz4)
   have HOwn4 : Hid (w4.ownsRow w.heap.size 46 22 v D.length (D.flatMap vtc)):=own_kept (HOwn.out.alloc _) hg4 (fun k hk => by
    injection hk with hk
    subst hk
    right
    intro e
    have:=(HOwn.out.lt _ e).2
    omega)
   have hbw4 : Below w.heap.size w w4:=(hbw.alloc hbw.size _).grown hg4 (Nat.le_trans hbw.size (by simp)) (fun k hk => by injection hk with hk; subst hk; exact hbw.size)
   have HBq4 : Hid (Blk w4 q 24 p.cells):=(HBq.out.alloc _).kept hg4 (by intro e; injection e with e; omega)
   have HBp4 : Hid (Blk w4 pb 56 #[v]):=(HBp.out.alloc _).kept hg4 (by intro e; injection e with e; omega)
   have hw4 : w4.heap.size = wr.heap.size + 1:=by rw [hsz4]; simp
   obtain ⟨z,hz⟩ : ∃ z,z = wr.heap.size:=⟨_,rfl⟩
   rw [← hz] at hB4 hw4 ⊢
   have x2 : rowAt w4 z 6 8 = some x.parent.cells:=x.row_parent hB4
   have x3 : rowAt w4 z 0 22 = some x.cells:=hB4.row 22 rfl
   have y3 : rowAt w4 q 0 8 = some p.cells:=HBq4.out.row 8 rfl
   have y4 : w4.cell? ⟨pb,0,none⟩ = some v:=HBp4.out.cell 0
   have y5 : w4.frozen? ⟨pb,0,none⟩ = false:=HBp4.out.frozen 0
   clear hB4 hg4 hsz4 x1 y1 y2 hz HOwn HBq HBp hbw hw4
   obtain ⟨k,hk⟩ : ∃ k,k = decide (x.parent = p):=⟨_,rfl⟩
   have e1 : ∀ W,(Op.equalIn 10000 24 (.agg x.parent.cells) (.agg p.cells)).run Tryz.prog W = .ok k W:=fun W => by rw [hk]; exact eqNm x.parent p W 9998
   have HK:=Lib.hid hk
   clear hk
   try go_frame
   cases k with
   | false =>
    go_wp2
    go_roundw
    case rel => exact ⟨i + 1,v,D,by go_num,by rw [HN.out]; omega,by omega,(by rw [HStep.out,if_neg (of_decide_eq_false HK.out.symm),List.append_nil]; exact HD.out),HOwn4.out,hbw4,HBq4.out,HBp4.out⟩
    case measure => simp [intOf]; omega
   | true =>
    have hxp : x.parent = p:=of_decide_eq_true HK.out.symm
    have HXp:=Lib.hid hxp
    clear hxp HK
    go_wp2_with ((first
     | (refine wpList_build1 rfl 56 46 (.tmp 22) rfl x.cells rfl Tryz.underlying56 (by kernel_rfl) (by decide) (by decide) ?_)
     | (at_builtin; refine wpList_app rfl (.tmp 21) (.tmp 23) _ rfl w.heap.size 46 (.agg zeroV.cells) 22 64 Tryz.underlying56 info_vote rfl (by decide) v D.length (D.flatMap vtc) rfl ?r0 (w4.heap.size + 1) (some ⟨w4.heap.size,0,none⟩) 1 1 (vtc x) rfl ?r1 ?r2 ?r3 ?r4 ?r5 ?r6 ?_)))
    case r0 => exact HOwn4.out.alloc _
    case r1 => rfl
    case r2 => exact Rd.mk (by omega) (fun j u hu => by rw [Nat.zero_add,(Blk.new w4 _ _).cell]; simpa using hu)
    case r3 => exact fun u hu => one_vt x hu
    case r4 => omega
    case r5 => unfold maxLen; omega
    case r6 => have:=hbw4.size; simp; omega
    intro v3 w3 hown3 hg3 hat3
    have hne3 : some pb ≠ v.ownBlock:=own_ne HOwn4.out HBp4.out (by decide)
    have hnq3 : some q ≠ v.ownBlock:=own_ne HOwn4.out HBq4.out (by decide)
    have HBq3 : Hid (Blk w3 q 24 p.cells):=(HBq4.out.alloc _).kept hg3 hnq3
    have HBp3 : Hid (Blk w3 pb 56 #[v]):=(HBp4.out.alloc _).kept hg3 hne3
    have hne4 : some pb ≠ v3.ownBlock:=own_ne hown3 HBp3.out (by decide)
    have hbw3 : Below w.heap.size w w3:=below_own (hbw4.alloc hbw4.size _) (HOwn4.out.alloc _) hg3
    have y6 : w3.cell? ⟨pb,0,none⟩ = some v:=HBp3.out.cell 0
    have y7 : w3.frozen? ⟨pb,0,none⟩ = false:=HBp3.out.frozen 0
    obtain ⟨g3,cap3,rfl⟩:=ownsRow_succ hown3
    have HOwn3:=Lib.hid hown3
    clear hown3 hg3 hat3 hne3 hnq3
    have HNe:=Lib.hid hne4
    clear hne4
    go_wp2
    go_roundw
    case rel =>
     refine ⟨i + 1,_,D ++ [x],by go_num,by rw [HN.out]; omega,by rw [List.length_append]; simp; omega,?_,?_,hbw3.setCell hpw _,HBq3.out.far hqp _,HBp3.out.put 0 _⟩
     ·rw [HStep.out,if_pos HXp.out,← HD.out]
     ·have h:=own_kept HOwn3.out (one_put (p:=⟨pb,0,none⟩) (one_refl w3 pb) rfl (.slice (some ⟨g3,0,none⟩) (D.length + 1) cap3)) (fun k hk => by injection hk with hk; subst hk; exact .inr (fun e => HNe.out e.symm))
      rw [List.length_append,List.flatMap_append]
      simpa using h
    case measure => simp [intOf]; omega
  ·have di : decide ((i : Int) < (n : Int)) = false:=by simp; omega
   have hDl : D.length≤n:=by omega
   have hin' : i = n:=by omega
   have HDl : Hid (D = l.filter fun s => decide (s.parent = p)):=by
    have h:=HD.out
    rw [hin',← HN.out,List.take_length] at h
    exact h
   have hDs : D.length≤12:=by rw [HDl.out]; exact h12
   clear hin'
   have HSort:=Lib.hid (HMid.out wr pb v D HOwn.out hbw HBp.out hDs)
   clear HOwn HBq y1 HMid
   go_wp2_with fail
   refine HSort.out.mono ?_
   rintro en w3 ⟨rfl,hB3,hb3,l3,A3,c3,rfl,hp3,ha3,hr3⟩
   obtain ⟨n3,hn3⟩ : ∃ n3,l3.length = n3:=⟨_,rfl⟩
   rw [hn3] at hB3 ⊢
   have HB3:=Lib.hid hB3
   have HR3:=Lib.hid hr3
   have HP3:=Lib.hid hp3
   have HA3:=Lib.hid ha3
   clear ha3
   have HL3:=Lib.hid hn3
   have hn3n : n3≤n:=by rw [← hn3,hp3.length_eq]; exact hDl
   have z1 : w3.cell? ⟨pb,0,none⟩ = some (.slice A3 n3 c3):=hB3.cell 0
   have hp3' : pb < w3.heap.size:=hB3.lt
   clear hB3 hr3 hp3 hn3 HSort y2 HBp
   go_wp2
   go_loopw [8,32] (fun v iv wr => AscThinE l3 w3 v iv wr) (fun _ iv _ => n3 - (intOf iv).toNat)
   case atStart => exact ⟨0,[],rfl,Nat.zero_le _,Nat.le_refl _,rfl,⟨by simp,.inl ⟨rfl,rfl⟩⟩,Below.refl _ _⟩
   case round =>
    clear z1
    obtain ⟨i2,O,rfl,hin2,hOi,hO,hownv,hbr⟩:=hrel
    rw [HL3.out] at hin2
    have HO:=Lib.hid hO
    have HOv:=Lib.hid hownv
    have hOs : O.length≤1000000:=by omega
    clear hO hownv
    by_cases hi2 : i2 < n3
    ·have di2 : decide ((i2 : Int) < (n3 : Int)) = true:=by simp; omega
     obtain ⟨x,hx⟩ : ∃ x,l3[i2]? = some x:=⟨_,List.getElem?_eq_getElem (by rw [HL3.out]; exact hi2)⟩
     obtain ⟨b3,o3,rfl,hb3',hcell⟩:=HR3.out.cells (by intro e; have:=flat_length vtc 22 l3 (vtc_len l3); rw [e,HL3.out] at this; simp at this; omega)
     clear hcell
     have x1 : rowAt wr b3 (o3 + i2 * 22) 22 = some x.cells:=(HR3.out.below hbr).voteRow hx
     have HTh : Hid (thin id l3 (i2 + 1) = thin id l3 i2 ++ if (i2 = 0∨(l3[i2 - 1]?.map id) ≠ some x) then [x] else []):=by
      unfold Hid
      rw [thin,hx]
      rfl
     obtain ⟨r,hrr⟩ : ∃ r,r = (decide (i2 = 0) || decide ((l3[i2 - 1]?.map id) ≠ some x)):=⟨_,rfl⟩
     have HRr:=Lib.hid hrr
     clear hrr
     have HXx:=Lib.hid hx
     clear hx
     go_upto_region 13 with (refine wpList_store_blk rfl 46 (.tmp 10) (.tmp 36) rfl wr.heap.size x.cells rfl rfl 46 zeroV.cells (Blk.new wr _ _) (by rfl) (by kernel_rfl) (fun u hu => one_vt x hu) ?_; intro w4 hB4 hg4 hsz4)
     have HOv4 : Hid (w4.ownsRow w3.heap.size 46 22 u8 O.length (O.flatMap vtc)):=own_kept (HOv.out.alloc _) hg4 (fun k hk => by
      injection hk with hk
      subst hk
      right
      intro e
      have:=(HOv.out.lt _ e).2
      omega)
     have hbr4 : Below w3.heap.size w3 w4:=(hbr.alloc hbr.size _).grown hg4 (Nat.le_trans hbr.size (by simp)) (fun k hk => by injection hk with hk; subst hk; exact hbr.size)
     have hw4 : w4.heap.size = wr.heap.size + 1:=by rw [hsz4]; simp
     have HBx:=Lib.hid hB4
     obtain ⟨z,hz⟩ : ∃ z,z = wr.heap.size:=⟨_,rfl⟩
     rw [← hz] at HBx hw4 ⊢
     have hz4 : z < w4.heap.size:=by omega
     clear hB4 hg4 hsz4 x1 hz HOv hbr
     go_frame
     go_cut [47] (fun bv wx => bv = .bool r∧∃ k,wx = w4.drewN k)
     case first =>
      by_cases h0 : i2 = 0
      ·subst h0
       refine rgD (fun _ => True) (trivial) fun hHeld => ?_
       refine tkD 37 0 ?_
       go_frame
       refine tkD 38 1 ?_
       go_frame
       refine tkD 39 2 ?_
       go_frame
       refine skD 40 3 ?_
       go_frame
       refine skD 41 4 ?_
       go_frame
       refine skD 42 5 ?_
       go_frame
       refine skD 43 6 ?_
       go_frame
       refine skD 44 7 ?_
       go_frame
       refine skD 45 8 ?_
       go_frame
       refine skD 46 9 ?_
       go_frame
       refine tkD 47 10 ?_
       go_frame
       refine dnD ?_
       go_wp2_with fail
       go_meet
       exact ⟨by rw [HRr.out]; rfl,1,rfl⟩
      ·have d0 : decide ((i2 : Int) = 0) = false:=by simp; omega
       have d0b : ((i2 : Int) == 0) = false:=by simp; omega
       obtain ⟨y,hy⟩ : ∃ y,l3[i2 - 1]? = some y:=⟨_,List.getElem?_eq_getElem (by rw [HL3.out]; omega)⟩
       obtain ⟨j,hj⟩ : ∃ j,j = i2 - 1:=⟨_,rfl⟩
       rw [← hj] at hy
       have hji : (i2 : Int) - 1 = (j : Int):=by omega
       have hjn : j < n3:=by omega
       have hwj : IntKind.i64.wrap (j : Int) = (j : Int):=IntWalk.i64_in _ (by omega)
       have HJ:=Lib.hid hj
       clear hj
       obtain ⟨k,hk⟩ : ∃ k,k = decide (x = y):=⟨_,rfl⟩
       have e1 : ∀ W,(Op.equalIn 10000 46 (.agg x.cells) (.agg y.cells)).run Tryz.prog W = .ok k W:=fun W => by rw [hk]; exact eqVt x y W
       have HYy:=Lib.hid hy
       have HKk:=Lib.hid hk
       clear hk hy
       have HRows : Hid (∀ V,Below w4.heap.size w4 V→rowAt V z 0 22 = some x.cells∧V.cell? ⟨pb,0,none⟩ = some (.slice (some ⟨b3,o3,none⟩) n3 c3)∧rowAt V b3 (o3 + j * 22) 22 = some y.cells):=fun V hV =>
        ⟨(HBx.out.below hV hz4).row 22 rfl,((hbr4.trans (hV.mono hbr4.size)).cell (p:=⟨pb,0,none⟩) hp3').trans (HB3.out.cell 0),(HR3.out.below (hbr4.trans (hV.mono hbr4.size))).voteRow HYy.out⟩
       have hbx : Below w4.heap.size w4 w4:=Below.refl _ _
       refine rgD (fun w' => rowAt w' z 0 22 = some x.cells∧w'.cell? ⟨pb,0,none⟩ = some (.slice (some ⟨b3,o3,none⟩) n3 c3)∧rowAt w' b3 (o3 + j * 22) 22 = some y.cells) (HRows.out _ hbx.drew) fun hHeld => ?_
       refine tkD 37 0 ?_
       go_frame
       refine tkD 38 1 ?_
       go_frame
       refine tkD 39 2 ?_
       go_frame
       refine tkD 40 3 ?_
       go_frame
       refine tkD 41 4 ?_
       go_frame
       refine tkD 42 5 ?_
       go_frame
       refine tkD 43 6 ?_
       go_frame
       refine tkD 44 7 ?_
       go_frame
       refine tkD 45 8 ?_
       go_frame
       refine tkD 46 9 ?_
       go_frame
       refine tkD 47 10 ?_
       go_frame
       refine dnD ?_
       go_wp2_with fail
       go_meet
       refine ⟨?_,1,rfl⟩
       rw [HRr.out,← HJ.out,HYy.out,HKk.out]
       simp [h0,eq_comm]
     case rest =>
      obtain ⟨rfl,k,rfl⟩:=hcut
      have hrq : rowAt (w4.drewN k) z 0 22 = some x.cells:=by rw [rowAt_drewN]; exact HBx.out.row 22 rfl
      have HOv5 : Hid ((w4.drewN k).ownsRow w3.heap.size 46 22 u8 O.length (O.flatMap vtc)):=HOv4.out
      have hbr5 : Below w3.heap.size w3 (w4.drewN k):=below_drewN hbr4 k
      cases r with
      | true =>
       have hC : i2 = 0∨(l3[i2 - 1]?.map id) ≠ some x:=by
        have h:=HRr.out.symm
        rw [Bool.or_eq_true,decide_eq_true_eq,decide_eq_true_eq] at h
        exact h
       have HC:=Lib.hid hC
       clear hC
       clear HOv4 hbr4
       generalize w4.drewN k = w5 at *
       go_wp2_with ((first
        | (refine wpList_build1 rfl 56 46 (.tmp 49) rfl x.cells rfl Tryz.underlying56 (by kernel_rfl) (by decide) (by decide) ?_)
        | (at_builtin; refine wpList_app rfl (.tmp 48) (.tmp 50) _ rfl w3.heap.size 46 (.agg zeroV.cells) 22 64 Tryz.underlying56 info_vote rfl (by decide) u8 O.length (O.flatMap vtc) rfl ?r0 (w5.heap.size + 1) (some ⟨w5.heap.size,0,none⟩) 1 1 (vtc x) rfl ?r1 ?r2 ?r3 ?r4 ?r5 ?r6 ?_)))
       case r0 => exact HOv5.out.alloc _
       case r1 => rfl
       case r2 => exact Rd.mk (by omega) (fun j u hu => by rw [Nat.zero_add,(Blk.new w5 _ _).cell]; simpa using hu)
       case r3 => exact fun u hu => one_vt x hu
       case r4 => omega
       case r5 => unfold maxLen; omega
       case r6 => have:=hbr5.size; simp; omega
       intro v7 w7 hown7 hg7 hat7
       have hbr7 : Below w3.heap.size w3 w7:=below_own (hbr5.alloc hbr5.size _) (HOv5.out.alloc _) hg7
       have HOv7:=Lib.hid hown7
       clear hown7 hg7 hat7 hrq HOv5 hbr5
       go_wp2
       go_roundw
       case rel =>
        refine ⟨i2 + 1,O ++ [x],by go_num,by rw [HL3.out]; omega,by rw [List.length_append]; simp; omega,?_,?_,hbr7⟩
        ·rw [HTh.out,if_pos HC.out,← HO.out]
        ·have h:=HOv7.out
         rw [List.length_append,List.flatMap_append]
         simpa using h
       case measure => simp [intOf]; omega
      | false =>
       have hC : ¬ (i2 = 0∨(l3[i2 - 1]?.map id) ≠ some x):=by
        have h:=HRr.out.symm
        rw [Bool.or_eq_false_iff,decide_eq_false_iff_not,decide_eq_false_iff_not] at h
        intro hh
        rcases hh with hh | hh
        ·exact h.1 hh
        ·exact h.2 hh
       have HC:=Lib.hid hC
       clear hC
       clear HOv4 hbr4 hrq
       generalize w4.drewN k = w5 at *
       go_wp2
       go_roundw
       case rel => exact ⟨i2 + 1,O,by go_num,by rw [HL3.out]; omega,by omega,(by rw [HTh.out,if_neg HC.out,List.append_nil]; exact HO.out),HOv5.out,hbr5⟩
       case measure => simp [intOf]; omega
    ·have di2 : decide ((i2 : Int) < (n3 : Int)) = false:=by simp; omega
     go_wp2
     go_ret
     have hi3 : i2 = l3.length:=by rw [HL3.out]; omega
     have hOa : O = ascF p l:=by rw [HO.out,hi3]; exact thin_asc (by rw [← HDl.out]; exact HP3.out) HA3.out
     rw [← hOa]
     exact ⟨u8,rfl,own_base HOv.out hb3.size,hb3.trans (hbr.mono hb3.size)⟩
end
end Go.Proofs.YtadllffeoibelaaGreat
