/-
  What these parts of the proof come to, functions walked and plain laws: Vl1. No condition.
-/
import Derived.Test.YtadllffeoibelaaGreatS28
import Derived.Test.YtadllffeoibelaaGreatS10
import Derived.Test.YtadllffeoibelaaGreatS9
namespace Go.Proofs.YtadllffeoibelaaGreat
section
open Go.RowKit
attribute [local go_sem ↓] Go.wp_at_zero Go.wp_at_succ loadNm loadVt loadSg loadEv loadVl
attribute [local go_sem] runNm runVt runSg runEv runVl pickRow_some rowAt_drew rowAt_drewN
instance : Inhabited Vl:=⟨Vl.zero⟩
theorem RowE.vl {T : List Value} {w0 W : World} {g i : Nat} {l : List Vl} {x : Vl} (h : RowE ⟨vlc,T⟩ 258 w0 g l W) (hx : l[i]? = some x) : rowAt W g (i * 9) 9 = some x.cells:=by
 refine rowAt_of (fun j u hu => ?_) rfl
 have:=row_cell (c:=⟨vlc,T⟩) (m:=9) (fun _ => rfl) h.blk i j x u hx (by simpa using hu)
 rwa [Nat.zero_add] at this
set_option maxRecDepth 100000 in
set_option maxHeartbeats 2000000 in
theorem vlLess_on (T : List Value) (B g n c : Nat) (l0 : List Vl) (w0 : World) (hB : Blk w0 B 261 #[.slice (some ⟨g,0,none⟩) n c]) (hne : B ≠ g) (hn : l0.length = n) :
  LessE ⟨vlc,T⟩ 258 w0 g l0 lessVl 251 #[.pointer (some ⟨B,0,none⟩)]:=by
 intro W l i j x y hr hp hx hy
 have hi : i < n:=by rw [← hn,← hp.length_eq]; exact (List.getElem?_eq_some_iff.1 hx).1
 have hj : j < n:=by rw [← hn,← hp.length_eq]; exact (List.getElem?_eq_some_iff.1 hy).1
 have hc0 : W.cell? ⟨B,0,none⟩ = some (.slice (some ⟨g,0,none⟩) n c):=(hr.box hB hne).cell 0
 have HRows : Hid (∀ V,Below W.heap.size W V→V.cell? ⟨B,0,none⟩ = some (.slice (some ⟨g,0,none⟩) n c)∧rowAt V g (i * 9) 9 = some x.cells∧rowAt V g (j * 9) 9 = some y.cells) :=
  fun V hV => ⟨(hV.cell (p:=⟨B,0,none⟩) (hr.box hB hne).lt).trans hc0,rowAt_below (hr.vl hx) hV hr.blk.lt,rowAt_below (hr.vl hy) hV hr.blk.lt⟩
 have HL : Hid (∀ V,Below W.heap.size W V→Calls Tryz.prog 252 #[x.val,y.val] V (BoolPost V (lessVl x y))) :=
  fun V hV => agless_any x y V
 obtain ⟨r,hrr⟩ : ∃ r,r = lessVl x y:=⟨_,rfl⟩
 rw [← hrr] at HL ⊢
 clear hrr hc0 hr hp hx hy hB hn
 have hbw : Below W.heap.size W W:=Below.refl _ _
 show Calls Tryz.prog 251 #[.int .i64 (i : Int),.int .i64 (j : Int),.pointer (some ⟨B,0,none⟩)] W _
 go_enter Tryz.func251,Tryz.ntmps251
 go_upto_region 1 with fail
 refine rgD (fun w' => w'.cell? ⟨B,0,none⟩ = some (.slice (some ⟨g,0,none⟩) n c)∧rowAt w' g (i * 9) 9 = some x.cells∧rowAt w' g (j * 9) 9 = some y.cells) (HRows.out _ hbw.drew) fun hHeld => ?_
 refine tkD 6 0 ?_
 go_frame
 refine tkD 7 1 ?_
 go_frame
 refine tkD 8 2 ?_
 go_frame
 refine tkD 9 3 ?_
 go_frame
 refine tkD 10 4 ?_
 go_frame
 refine tkD 11 5 ?_
 go_frame
 refine tkD 12 6 ?_
 go_frame
 refine tkD 13 7 ?_
 go_frame
 refine rd1 8 fun K hK => ?_
 go_simp
 refine (HL.out _ hbw.drew).mono ?_; rintro en w2 ⟨rfl,hb2⟩; have hbw2:=hbw.drew.trans (hb2.mono hbw.size)
 go_wp2_with fail
 refine hK.out _ _ (HRows.out _ hbw2) (fun hHeld => ?_)
 clear hK K
 try go_frame
 refine tkD 5 9 ?_
 go_frame
 refine dnD ?_
 go_wp2
 go_ret
 exact ⟨rfl,hbw2⟩
noncomputable def vlT : TypeInfo:=(Tryz.prog.info? 261).get (by kernel_rfl)
noncomputable def vlE : TypeInfo:=(Tryz.prog.info? 258).get (by kernel_rfl)
theorem vlE_k (n : Nat) (h : 2≤n) : Lib.swapperK n vlE 25 = 9:=by
 have a : vlE.hasPointers = false:=by kernel_rfl
 have b : vlE.bytes = 16:=by kernel_rfl
 have c0 : (n == 0) = false:=by simp; omega
 have c1 : (n == 1) = false:=by simp; omega
 unfold Lib.swapperK
 rw [a,b,c0,c1]; rfl
theorem vlT_is : Tryz.prog.info? 261 = some vlT:=by kernel_rfl
theorem vlE_is : Tryz.prog.info? 258 = some vlE:=by kernel_rfl
theorem vlT_desc : vlT.desc = .slice 258:=by kernel_rfl
theorem vlE_size : vlE.size = 9:=by kernel_rfl
theorem slT_vl : SlT 261 258 9 :=
 ⟨⟨vlT,vlT_is,vlT_desc⟩,by kernel_rfl,⟨vlE,vlE_is,vlE_size,vlE_k⟩,fun _ => by kernel_rfl,fun _ => by kernel_rfl⟩
theorem enters_vls (args : Array Value) (W : World) : (callFunc 251 args).run Tryz.prog W = .ok (.enter 251 args) W:=enters_of Tryz.func251 (by kernel_rfl) rfl args W
def VlMid (D : List Vl) (w : World) (pb : Nat) (v : Value) (e : Ending) (w3 : World) : Prop :=
 e = .returned (.tuple #[])∧Blk w3 pb 261 #[v]∧Below w.heap.size w w3∧∃ (l3 : List Vl),l3.Perm D∧w3.ownsRow w.heap.size 258 9 v l3.length (l3.flatMap vlc)
theorem vl_mid (w W : World) (pb : Nat) (v : Value) (D : List Vl) (hown : W.ownsRow w.heap.size 258 9 v D.length (D.flatMap vlc)) (hb : Below w.heap.size w W) (hpb : Blk W pb 261 #[v]) (hsm : D.length≤1000000) :
  Calls Tryz.prog 116 #[.iface 261 v,.func (.func 251) #[] #[.pointer (some ⟨pb,0,none⟩)]] W (VlMid D w pb v):=by
 rcases own_tail2 hown with ⟨rfl,h0,_⟩ | ⟨g,cap,T,rfl,hg,hblk,hcap,hcap2,hlen⟩
 ·refine (slice_nil slT_vl 0 W).mono ?_
  rintro e w3 ⟨rfl,hb3⟩
  have hD : D = []:=List.eq_nil_of_length_eq_zero h0
  subst hD
  exact ⟨rfl,hpb.below hb3 hpb.lt,hb.trans (hb3.mono hb.size),[],List.Perm.refl _,by simp,.inl ⟨rfl,rfl⟩⟩
 ·have hne : pb ≠ g:=by
   intro e
   subst e
   unfold Blk at hpb hblk
   rw [hpb] at hblk
   injection hblk with hh
   injection hh with _ ht
   exact absurd ht (by decide)
  refine (slice_any slT_vl ⟨vlc,T⟩ (fun _ => rfl) (by decide) (fun x v hv => one_vl x hv) (fun args W => enters_vls args W) D g D.length cap W (vlLess_on T pb g D.length cap D W hpb hne rfl) hblk rfl hsm).mono ?_
  rintro e w3 ⟨rfl,l3,hr3,hp3⟩
  have hl3:=hp3.length_eq
  have f3:=flat_length vlc 9 l3 (vlc_len l3)
  have fD:=flat_length vlc 9 D (vlc_len D)
  refine ⟨rfl,hr3.box hpb hne,hb.grown hr3.kept hb.size (fun k hk => by injection hk with hk; subst hk; exact hg),l3,hp3,f3,.inr ⟨g,cap,_,by rw [hl3],hg,hr3.blk,by rw [hl3]; exact hcap,hcap2,?_,?_⟩⟩
  ·show (l3.flatMap vlc ++ T).length = _
   rw [List.length_append,f3,← hlen,fD,hl3]
  ·show (l3.flatMap vlc ++ T).take (l3.length * 9) = _
   rw [← f3,List.take_left]
end
end Go.Proofs.YtadllffeoibelaaGreat
