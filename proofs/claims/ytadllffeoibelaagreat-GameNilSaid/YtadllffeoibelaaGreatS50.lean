/-
  What these parts of the proof come to, functions walked and plain laws: Aw19P, GmNewP. No condition.
-/
import Derived.Test.YtadllffeoibelaaGreatS48
import Derived.Test.YtadllffeoibelaaGreatS49
import Derived.Test.YtadllffeoibelaaGreatS10
import Derived.Test.YtadllffeoibelaaGreatS44
namespace Go.Proofs.YtadllffeoibelaaGreat
section

section
variable {par a : Nm}
theorem SNextR.one_some {l : List Vt} {H : List Nm} {wt : Bool} {v : Vt} (h : SNextR 1 par 0 l H wt (some v)) : NextR 1 1 par 0 0 l H wt (some v):=by
 obtain ⟨s,hs,_,h⟩:=h
 have hq : quoF (popF (xOf 1) 10) = 1:=by decide
 rw [hq] at h
 have h0 : s = 0:=by
  have h1:=h.2.1
  rcases Nat.eq_zero_or_pos s with h | h
  ·exact h
  ·exfalso
   have e : xOf 1 = 2 ^ 0:=by decide
   rw [e,Nat.testBit_two_pow] at h1
   simp at h1
   omega
 subst h0
 exact h
theorem SNextR.one_none {l : List Vt} {H : List Nm} {wt : Bool} (h : SNextR 1 par 0 l H wt none) : NextR 1 1 par 0 0 l H wt none:=by
 have h:=h 0 (by omega)
 have hq : quoF (popF (xOf 1) 10) = 1:=by decide
 rwa [hq] at h
theorem aL_valid (ha : ¬ a = Nm.zero) (k : Nat) : ∀ x ∈ aL par a k,ValidP x:=by
 have v1 : ValidP (a1 par a):=⟨by simp [a1],by simp [a1],by simp [a1,ha],by simp [a1],by simp [a1],by simp [a1],by simp [a1],by simp [a1]⟩
 have v2 : ValidP (a2 par a):=⟨by simp [a2],by simp [a2],by simp [a2,ha],by simp [a2],by simp [a2],by simp [a2],by simp [a2],by simp [a2]⟩
 have v3 : ValidP (a3 par a):=⟨by simp [a3],by simp [a3],by simp [a3,ha],by simp [a3],by simp [a3],by simp [a3],by simp [a3],by simp [a3]⟩
 have v4 : ValidP (a4 par a):=⟨by simp [a4],by simp [a4],by simp [a4,ha],by simp [a4],by simp [a4],by simp [a4],by simp [a4],by simp [a4]⟩
 match k with
 | 0 => simp [aL]
 | 1 => simp [aL,v1]
 | 2 => simp [aL,v1,v2]
 | 3 => simp [aL,v1,v2,v3]
 | k + 4 => simp [aL,v1,v2,v3,v4]
theorem aw_next {k : Nat} {wt : Bool} {o : Option Vt} (ha : ¬ a = Nm.zero) (h1 : 1≤k) (h4 : k≤4) (h : SNextR 1 par 0 (aL par a k) (prpN (aL par a k)) wt o) : (k = 4∧o = none)∨(k < 4∧∃ v,o = some v∧aL par a k ++ [v] = aL par a (k + 1)∧ValidP v):=by
 have hH : prpN (aL par a 1) = [a]:=by simp [prpN,aL,a1]
 have key : ∀ {o},NextR 1 1 par 0 0 (aL par a k) (prpN (aL par a k)) wt o→(k = 4∧o = none)∨(k < 4∧∃ v,o = some v∧aL par a k ++ [v] = aL par a (k + 1)):=fun {o} h => by
  rcases (by omega : k = 1∨k = 2∨k = 3∨k = 4) with rfl | rfl | rfl | rfl
  ·rw [hH] at h; exact .inr ⟨by omega,_,due1 ha h,rfl⟩
  ·exact .inr ⟨by omega,_,due2 ha h,rfl⟩
  ·exact .inr ⟨by omega,_,due3 h,rfl⟩
  ·exact .inl ⟨rfl,due4 h⟩
 cases o with
 | none =>
  rcases key h.one_none with h | ⟨_,v,h,_⟩
  ·exact .inl h
  ·cases h
 | some v =>
  rcases key h.one_some with ⟨_,h⟩ | ⟨h1,v',h2,h3⟩
  ·cases h
  ·injection h2 with h2
   subst h2
   refine .inr ⟨h1,v,rfl,h3,?_⟩
   have hv:=aL_valid (par:=par) ha k
   obtain ⟨s,hs,hd⟩:=h.due hv
   exact hd.1
theorem aL_asc' (k : Nat) (X : List VS) (h : X.map (·.1) = aL par a k) : canF X = X:=by
 refine canF_asc ?_
 rw [ascL_iff]
 intro i x y hx hy
 have e1 : (aL par a k)[i]? = some x.1:=by rw [← h,List.getElem?_map,hx]; rfl
 have e2 : (aL par a k)[i + 1]? = some y.1:=by rw [← h,List.getElem?_map,hy]; rfl
 have hl:=(List.getElem?_eq_some_iff.1 e2).1
 match k with
 | 0 => simp [aL] at hl
 | 1 => simp [aL] at hl
 | 2 =>
  simp [aL] at hl
  have hi : i = 0:=by omega
  subst hi
  simp [aL] at e1 e2
  rw [← e1,← e2]
  simp [a1,a2,lessV]
 | 3 =>
  simp [aL] at hl
  rcases (by omega : i = 0∨i = 1) with rfl | rfl <;> (simp [aL] at e1 e2; rw [← e1,← e2]; simp [a1,a2,a3,lessV])
 | k + 4 =>
  simp [aL] at hl
  rcases (by omega : i = 0∨i = 1∨i = 2) with rfl | rfl | rfl <;> (simp [aL] at e1 e2; rw [← e1,← e2]; simp [a1,a2,a3,a4,lessV])
end
def AwI (par a : Nm) (k : Nat) (G : GmS) : Prop:=∃ (b : Nat) (P : PrS),G.ps = [(b,P)]∧G.M = 1∧G.par = par∧P.mem = 0∧P.pay = a∧P.leaf = k∧P.dd = false∧P.L.map (·.vote) = aL par a k
theorem AwI.D {par a : Nm} {k : Nat} {P : PrS} (h : P.L.map (·.vote) = aL par a k) : P.D = aL par a k∧canF (P.L.map Sg.vs) = P.L.map Sg.vs:=by
 have e : (P.L.map Sg.vs).map (·.1) = aL par a k:=by rw [List.map_map]; exact h
 have hc:=aL_asc' k _ e
 refine ⟨?_,hc⟩
 show votF (P.L.map Sg.vs) = _
 unfold votF
 rw [hc,e]
theorem AwI.more {par a : Nm} {k : Nat} {v : Vt} {G G' : GmS} (h : AwI par a k G) (hs : SgnR 0 v G G') (hv : aL par a k ++ [v] = aL par a (k + 1)) : AwI par a (k + 1) G':=by
 obtain ⟨b,P,h1,h2,h3,h4,h5,h6,h7,h8⟩:=h
 obtain ⟨b',P',y,sv0,sl,va,vs,L,s1,s2,s3,s4,s5,rfl⟩:=hs
 rw [h1] at s1
 injection s1 with s1
 injection s1 with s1 s1'
 subst s1
 subst s1'
 refine ⟨b,P.signd va L,?_,h2,h3,h4,h5,by show P.leaf + 1 = k + 1; rw [h6],h7,?_⟩
 ·show G.ps.set 0 _ = _
  rw [h1]
  rfl
 ·show L.map (·.vote) = _
  have e : (P.L.map Sg.vs ++ [(v,sigF y.seed P.leaf (nameF v))]).map (·.1) = aL par a (k + 1):=by
   rw [List.map_append,List.map_map,← hv,← h8]
   rfl
  have e2 : L.map (·.vote) = (L.map Sg.vs).map (·.1):=by rw [List.map_map]; rfl
  rw [e2,s5,aL_asc' (k + 1) _ e,e]
theorem AwI.good {par a : Nm} {k : Nat} {G : GmS} (ha : ¬ a = Nm.zero) (hk : k≤4) (h : AwI par a k G) : GoodG G:=by
 obtain ⟨b,P,h1,h2,h3,h4,h5,h6,h7,h8⟩:=h
 refine ⟨by rw [h1]; simp,fun i b' P' hi => ?_⟩
 rw [h1] at hi
 have hi0 : i = 0:=by
  have:=(List.getElem?_eq_some_iff.1 hi).1
  simp at this; exact this
 subst hi0
 simp at hi
 obtain ⟨rfl,rfl⟩:=hi
 have hl:=congrArg List.length h8
 rw [List.length_map] at hl
 have hv:=aL_valid (par:=par) ha k
 refine ⟨?_,fun x hx => hv _ (by rw [← h8]; exact List.mem_map_of_mem hx)⟩
 have : (aL par a k).length≤4:=by
  match k with
  | 0 | 1 | 2 | 3 | k + 4 => simp [aL]
 omega
theorem aw_dec {par a : Nm} {L : List Oc} {ok : Bool} (h : DecG 1 par (aL par a 4) L ok) : ok = true∧∃ o,L = [o]∧o.value = a:=by
 have hi : idsF (xOf 1) 10 = [0]:=by decide
 rcases h with ⟨rfl,⟨h1,h2⟩,_⟩ | ⟨rfl,⟨i,hi10,hb,h⟩ | h⟩
 ·refine ⟨rfl,?_⟩
  rw [hi] at h1
  rcases L with _ | ⟨o,_ | ⟨o',L⟩⟩
  ·simp at h1
  ·simp at h1
   obtain ⟨L',hL⟩:=h2 o List.mem_cons_self
   rw [h1] at hL
   obtain ⟨O,hO,hx,_⟩:=hL
   obtain ⟨w,hw,w1,w2,w3,w4⟩:=out_some (hx o List.mem_cons_self).2 (by decide)
   have hm:=(hO.2 w hw).1
   refine ⟨o,rfl,?_⟩
   simp [aL] at hm
   rcases hm with rfl | rfl | rfl | rfl
   ·simp [a1] at w1
   ·simp [a2] at w1
   ·simp [a3] at w1
   ·exact w4.symm
  ·simp at h1
 ·exfalso
  have h0 : i = 0:=by
   rcases Nat.eq_zero_or_pos i with h | h
   ·exact h
   ·exfalso
    have e : xOf 1 = 2 ^ 0:=by decide
    rw [e,Nat.testBit_two_pow] at hb
    simp at hb
    omega
  subst h0
  have:=aL_some h
  cases this
 ·rw [hi] at h; cases h
end
section
open Go.RowKit
def TyB (w : World) (o : Option Nat) (T : TypeId) : Prop:=∀ k,o = some k→∃ cs,Blk w k T cs
theorem TyB.off {w : World} {k : Nat} {t T : TypeId} (h : TyB w (some k) T) (ht : t ≠ T) : Off w k t:=by
 obtain ⟨cs,hB⟩:=h k rfl
 exact .blk hB (fun e => ht e.symm)
theorem own_tyB {w : World} {base e size n : Nat} {v : Value} {xs : List Value} (h : w.ownsRow base e size v n xs) : TyB w v.ownBlock e:=fun k hk => by
 rcases h.2 with ⟨rfl,_⟩ | ⟨g,cap,cur,rfl,_,hh,_⟩
 ·simp [Value.ownBlock] at hk
 ·have : g = k:=by simpa [Value.ownBlock] using hk
  subst this
  exact ⟨cur,hh⟩
theorem blk_tyB {w : World} {g T : Nat} {cs : Array Value} (h : Blk w g T cs) : TyB w (some g) T:=fun k hk => by
 injection hk with hk
 subst hk
 exact ⟨cs,h⟩
section
variable {w w' : World} {o : Option Nat} {T : TypeId}
theorem own_offB {base e size n : Nat} {v : Value} {xs : List Value} (h : w.ownsRow base e size v n xs) (hg : w.grownBy w' o) (ho : TyB w o T) (he : e ≠ T) : w'.ownsRow base e size v n xs:=by
 cases o with
 | none => exact own_kept h hg (fun k hk => by cases hk)
 | some k => exact own_off h hg (ho.off he)
theorem Blk.offB {g t : Nat} {cs : Array Value} (h : Blk w g t cs) (hg : w.grownBy w' o) (ho : TyB w o T) (ht : t ≠ T) : Blk w' g t cs:=by
 cases o with
 | none => exact h.kept hg (by simp)
 | some k => exact h.off hg (ho.off ht)
theorem KeyAt.offB {s : Nm} {h m : Nat} (hk : KeyAt s h m w) (hg : w.grownBy w' o) (ho : TyB w o T) (h1 : 24 ≠ T) (h2 : 152 ≠ T) : KeyAt s h m w':=by
 cases o with
 | none =>
  obtain ⟨a1,a2,tl,a3,a4⟩:=hk
  exact ⟨a1.kept hg (by simp),a2,tl,a3.kept hg (by simp),fun a b hab => by
   obtain ⟨l,n,g,e1,e2,e3⟩:=a4 a b hab
   exact ⟨l,n,g,e1,e2,e3.kept hg (by simp)⟩⟩
 | some k =>
  refine hk.off hg (fun e => ?_) (ho.off h1) (ho.off h2)
  obtain ⟨_,_,tl,a3,_⟩:=hk
  obtain ⟨cs,hB⟩:=ho k rfl
  exact (Off.map a3 : Off w m T) _ (e ▸ hB)
theorem PrAt.offB {Bs b : Nat} {P : PrS} (h : PrAt Bs w b P) (hg : w.grownBy w' o) (ho : TyB w o T) (h0 : 97 ≠ T) (h1 : 62 ≠ T) (h2 : 5 ≠ T) (h3 : 88 ≠ T) : PrAt Bs w' b P :=
 ⟨h.blk.offB hg ho h0,own_offB h.row hg ho h1,fun s hs => ⟨(h.sgs s hs).1,own_offB (h.sgs s hs).2.1 hg ho h2,(h.sgs s hs).2.2⟩,own_offB h.dec hg ho h3⟩
end
def FarT (T : TypeId) : Prop:=24 ≠ T∧152 ≠ T∧97 ≠ T∧62 ≠ T∧5 ≠ T∧88 ≠ T∧46 ≠ T
section
variable {Bs g : Nat} {w w1 : World} {G : GmS} {o : Option Nat} {T : TypeId}
theorem GmAt.farK (h : GmAt Bs w g G) (hg : w.grownBy w1 o) (ho : TyB w o T) (hT : FarT T) : ∀ (i : Nat) (k : KyS),G.ks[i]? = some k→KeyAt k.seed k.h k.m w1∧Bs≤k.m:=fun i k hk => ⟨(h.keys i k hk).1.offB hg ho hT.1 hT.2.1,(h.keys i k hk).2⟩
theorem GmAt.farP (h : GmAt Bs w g G) (hg : w.grownBy w1 o) (ho : TyB w o T) (hT : FarT T) : ∀ (i : Nat) (p : Nat × PrS),G.ps[i]? = some p→PrAt Bs w1 p.1 p.2∧Bs≤p.1:=fun i p hp => ⟨(h.prs i p hp).1.offB hg ho hT.2.2.1 hT.2.2.2.1 hT.2.2.2.2.1 hT.2.2.2.2.2.1,(h.prs i p hp).2⟩
theorem GmAt.farS (h : GmAt Bs w g G) (hg : w.grownBy w1 o) (ho : TyB w o T) (hT : FarT T) : ∀ (i : Nat) (x : Value × List Vt),G.sg[i]? = some x→w1.ownsRow Bs 46 22 x.1 x.2.length (x.2.flatMap vtc):=fun i x hx => own_offB (h.sgs i x hx) hg ho hT.2.2.2.2.2.2
theorem get_snoc {α : Type} {l : List α} {a b : α} {i : Nat} (h : (l ++ [a])[i]? = some b) : l[i]? = some b∨(i = l.length∧b = a):=by
 rw [List.getElem?_append] at h
 by_cases hi : i < l.length
 ·rw [if_pos hi] at h; exact .inl h
 ·rw [if_neg hi] at h
  have : i - l.length = 0:=by
   have:=(List.getElem?_eq_some_iff.1 h).1
   simp at this; omega
  rw [this] at h
  simp at h
  exact .inr ⟨by omega,h.symm⟩
theorem GmAt.addK {kv' : Value} {k : KyS} (h : GmAt Bs w g G) (hg : w.grownBy w1 G.kv.ownBlock) (hown : w1.ownsRow Bs 112 1 kv' (G.ks.length + 1) ((G.ks.map fun k => ptrV k.h) ++ [ptrV k.h])) (hk : KeyAt k.seed k.h k.m w1∧Bs≤k.m) (hn : ∀ k' ∈ G.ks,k'.m ≠ k.m) :
  GmAt Bs (w1.setCell ⟨g,10,none⟩ kv') g { G with kv:=kv',ks:=G.ks ++ [k] }∧w1.grownBy (w1.setCell ⟨g,10,none⟩ kv') (some g):=by
 have hT:=own_tyB h.krow
 have fT : FarT 112:=⟨by decide,by decide,by decide,by decide,by decide,by decide,by decide⟩
 have hB:=h.blk.offB hg hT (by decide)
 have hg2 : w1.grownBy (w1.setCell ⟨g,10,none⟩ kv') (some g):=one_put (p:=⟨g,10,none⟩) (one_refl w1 g) rfl _
 have hT2:=blk_tyB hB
 have fG : FarT 93:=⟨by decide,by decide,by decide,by decide,by decide,by decide,by decide⟩
 have a1:=h.farK hg hT fT
 have a2:=h.farP hg hT fT
 have a3:=h.farS hg hT fT
 refine ⟨⟨hB.put 10 kv',?_,own_offB (own_offB h.prow hg hT (by decide)) hg2 hT2 (by decide),own_offB (own_offB h.srow hg hT (by decide)) hg2 hT2 (by decide),fun i k' hk' => ?_,fun i p hp => ⟨(a2 i p hp).1.offB hg2 hT2 fG.2.2.1 fG.2.2.2.1 fG.2.2.2.2.1 fG.2.2.2.2.2.1,(a2 i p hp).2⟩,fun i x hx => own_offB (a3 i x hx) hg2 hT2 fG.2.2.2.2.2.2,fun i j k1 k2 h1 h2 he => ?_,h.pn,h.sn⟩,hg2⟩
 ·have:=own_offB hown hg2 hT2 (by decide)
  show World.ownsRow _ Bs _ 1 kv' (G.ks ++ [k]).length ((G.ks ++ [k]).map fun k => ptrV k.h)
  rw [List.length_append,List.map_append]
  exact this
 ·rcases get_snoc hk' with hk' | ⟨_,rfl⟩
  ·exact ⟨(a1 i k' hk').1.offB hg2 hT2 fG.1 fG.2.1,(a1 i k' hk').2⟩
  ·exact ⟨hk.1.offB hg2 hT2 fG.1 fG.2.1,hk.2⟩
 ·rcases get_snoc h1 with g1 | ⟨e1,e1'⟩
  ·rcases get_snoc h2 with g2 | ⟨e2,e2'⟩
   ·exact h.kn i j k1 k2 g1 g2 he
   ·rw [e2'] at he
    exact absurd he (hn k1 (List.mem_of_getElem? g1))
  ·rcases get_snoc h2 with g2 | ⟨e2,e2'⟩
   ·rw [e1'] at he
    exact absurd he.symm (hn k2 (List.mem_of_getElem? g2))
   ·omega
theorem GmAt.addP {pv' : Value} {b : Nat} {P : PrS} (h : GmAt Bs w g G) (hg : w.grownBy w1 G.pv.ownBlock) (hown : w1.ownsRow Bs 98 1 pv' (G.ps.length + 1) ((G.ps.map fun p => ptrV p.1) ++ [ptrV b])) (hP : PrAt Bs w1 b P∧Bs≤b) (hn : ∀ p ∈ G.ps,p.1 ≠ b) :
  GmAt Bs (w1.setCell ⟨g,11,none⟩ pv') g { G with pv:=pv',ps:=G.ps ++ [(b,P)] }∧w1.grownBy (w1.setCell ⟨g,11,none⟩ pv') (some g):=by
 have hT:=own_tyB h.prow
 have fT : FarT 98:=⟨by decide,by decide,by decide,by decide,by decide,by decide,by decide⟩
 have hB:=h.blk.offB hg hT (by decide)
 have hg2 : w1.grownBy (w1.setCell ⟨g,11,none⟩ pv') (some g):=one_put (p:=⟨g,11,none⟩) (one_refl w1 g) rfl _
 have hT2:=blk_tyB hB
 have fG : FarT 93:=⟨by decide,by decide,by decide,by decide,by decide,by decide,by decide⟩
 have a1:=h.farK hg hT fT
 have a2:=h.farP hg hT fT
 have a3:=h.farS hg hT fT
 refine ⟨⟨hB.put 11 pv',own_offB (own_offB h.krow hg hT (by decide)) hg2 hT2 (by decide),?_,own_offB (own_offB h.srow hg hT (by decide)) hg2 hT2 (by decide),fun i k hk => ⟨(a1 i k hk).1.offB hg2 hT2 fG.1 fG.2.1,(a1 i k hk).2⟩,fun i p hp => ?_,fun i x hx => own_offB (a3 i x hx) hg2 hT2 fG.2.2.2.2.2.2,h.kn,fun i j p1 p2 h1 h2 he => ?_,h.sn⟩,hg2⟩
 ·have:=own_offB hown hg2 hT2 (by decide)
  show World.ownsRow _ Bs _ 1 pv' (G.ps ++ [(b,P)]).length ((G.ps ++ [(b,P)]).map fun p => ptrV p.1)
  rw [List.length_append,List.map_append]
  exact this
 ·rcases get_snoc hp with hp | ⟨_,rfl⟩
  ·exact ⟨(a2 i p hp).1.offB hg2 hT2 fG.2.2.1 fG.2.2.2.1 fG.2.2.2.2.1 fG.2.2.2.2.2.1,(a2 i p hp).2⟩
  ·exact ⟨hP.1.offB hg2 hT2 fG.2.2.1 fG.2.2.2.1 fG.2.2.2.2.1 fG.2.2.2.2.2.1,hP.2⟩
 ·rcases get_snoc h1 with g1 | ⟨e1,e1'⟩
  ·rcases get_snoc h2 with g2 | ⟨e2,e2'⟩
   ·exact h.pn i j p1 p2 g1 g2 he
   ·rw [e2'] at he
    exact absurd he (hn p1 (List.mem_of_getElem? g1))
  ·rcases get_snoc h2 with g2 | ⟨e2,e2'⟩
   ·rw [e1'] at he
    exact absurd he.symm (hn p2 (List.mem_of_getElem? g2))
   ·omega
end
end
end Go.Proofs.YtadllffeoibelaaGreat
