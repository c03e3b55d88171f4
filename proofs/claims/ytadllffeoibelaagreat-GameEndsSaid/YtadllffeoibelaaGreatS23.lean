/-
  Parts of the proof. No condition.
-/
import Derived.Test.YtadllffeoibelaaGreatS21
import Derived.Test.YtadllffeoibelaaGreatS22
open Go.Proofs.Tryz
namespace Go.Proofs.YtadllffeoibelaaGreat
set_option maxRecDepth 100000
set_option maxHeartbeats 32000000
set_option linter.all false
section
open Go.RowKit
def Off(w:World)(k:Nat)(t:TypeId):Prop:=∀cs,¬Blk w k t cs
theorem Off.blk{w:World}{k t t':TypeId}{cs:Array Value}(h:Blk w k t' cs)(hne:t'≠t):Off w k t:=fun _ h'=>hne (Cw h h')
theorem Off.map{κ:Type}{enc:κ->Value}{w:World}{k t:Nat}{l:List (κ×Value)}(h:C2 enc w k l):Off w k t:=fun cs hB=>by
 obtain⟨es,c,h1,_⟩:=h;unfold Blk at hB;rw[hB]at h1;cases h1
theorem BK{w w':World}{base e size n k:Nat}{v:Value}{xs:List Value}(h:w.ownsRow base e size v n xs)(hg:w.grownBy w' (some k))(ho:Off w k e):w'.ownsRow base e size v n xs:=
 Ba h hg (fun j hj=>by
  injection hj with hj
  subst hj;right;intro he;rcases h.2 with⟨rfl,_⟩|⟨g,cap,cur,rfl,_,hh,_⟩
  ·simp[Value.ownBlock]at he
  ·have:g=k:=by simpa[Value.ownBlock]using he
   subst this;exact ho _ hh)
theorem Blk.off{w w':World}{g t k:Nat}{cs:Array Value}(h:Blk w g t cs)(hg:w.grownBy w' (some k))(ho:Off w k t):Blk w' g t cs:=h.kept hg (fun e=>by injection e with e;subst e;exact ho _ h)
theorem CC.off{w w':World}{b k:Nat}{s:Sg}(h:CC w b s)(hg:w.grownBy w' (some k))(ho:Off w k 5):CC w' b s:=⟨h.1,BK h.2.1 hg ho,h.2.2⟩
theorem Bi.off{s:Nm}{h m k:Nat}{w w':World}(hk:Bi s h m w)(hg:w.grownBy w' (some k))(hm:m≠k)(h1:Off w k 24)(h2:Off w k 152):Bi s h m w':=by
 obtain⟨a1,a2,tl,a3,a4⟩:=hk;refine⟨a1.off hg h2,a2,tl,a3.kept hg (by simpa using hm),fun a b hab=>?_⟩;obtain⟨l,n,g,e1,e2,e3⟩:=a4 a b hab;refine⟨l,n,g,e1,e2,e3.kept hg (fun e=>?_)⟩;injection e with e
 subst e;obtain⟨cur,hC,_⟩:=e3;exact h1 _ hC
structure PrS where
 v:Value
 L:List Sg
 mem:Nat
 acts:Int
 leaf:Nat
 pay:Nm
 dv:Value
 dec:List Ch
 dd:Bool
abbrev PrS.cells(P:PrS):Array Value:=#[P.v,.int .i64 (P.mem:Int),.int .i64 P.acts,.int .i64 (P.leaf:Int),B P.pay.b0,B P.pay.b1,B P.pay.b2,B P.pay.b3,B P.pay.b4,B P.pay.b5,B P.pay.b6,B P.pay.b7,P.dv,.bool P.dd]
structure C7 (Bs:Nat)(w:World)(b:Nat)(P:PrS):Prop where
 blk:Blk w b 97 P.cells
 row:w.ownsRow Bs 62 23 P.v P.L.length (P.L.flatMap sgc)
 sgs:∀s∈P.L,CC w Bs s
 dec:w.ownsRow Bs 88 9 P.dv P.dec.length (P.dec.flatMap chc)
theorem C7.off{Bs:Nat}{w w':World}{b k:Nat}{P:PrS}(h:C7 Bs w b P)(hg:w.grownBy w' (some k))(hb:b≠k)(h1:Off w k 62)(h2:Off w k 5)(h3:Off w k 88):C7 Bs w' b P:=
 ⟨h.blk.kept hg (fun e=>by injection e with e;exact hb e),BK h.row hg h1,fun s hs=>(h.sgs s hs).off hg h2,BK h.dec hg h3⟩
theorem C7.below{Bs:Nat}{w w':World}{b:Nat}{P:PrS}(h:C7 Bs w b P)(hb:Wx w w'):C7 Bs w' b P:=
 ⟨h.blk.below hb h.blk.lt,BP h.row hb (AB _),fun s hs=>(h.sgs s hs).below hb (AB _),BP h.dec hb (AB _)⟩
theorem C7.row_pay{Bs:Nat}{w:World}{b:Nat}{P:PrS}(h:C7 Bs w b P):AK w b 4 8=some P.pay.cells:=
 Blk.part h.blk 4 P.pay.cells (fun j u hu=>by
  have hj:j<8:=(Aa.1 hu).1;rcases(by omega:j=0∨j=1∨j=2∨j=3∨j=4∨j=5∨j=6∨j=7)with rfl|rfl|rfl|rfl|rfl|rfl|rfl|rfl <;> exact hu)
structure KyS where
 seed:Nm
 h:Nat
 m:Nat
structure GmS where
 M:Int
 hon:Int
 par:Nm
 kv:Value
 pv:Value
 sv:Value
 ks:List KyS
 ps:List (Nat×PrS)
 sg:List (Value×List Vt)
abbrev GmS.cells(G:GmS):Array Value:=#[.int .i64 G.M,.int .i64 G.hon,B G.par.b0,B G.par.b1,B G.par.b2,B G.par.b3,B G.par.b4,B G.par.b5,B G.par.b6,B G.par.b7,G.kv,G.pv,G.sv]
abbrev At(b:Nat):Value:=.pointer (some ⟨b,0,none⟩)
structure Ax (Bs:Nat)(w:World)(g:Nat)(G:GmS):Prop where
 blk:Blk w g 93 G.cells
 krow:w.ownsRow Bs 112 1 G.kv G.ks.length (G.ks.map fun k=>At k.h)
 prow:w.ownsRow Bs 98 1 G.pv G.ps.length (G.ps.map fun p=>At p.1)
 srow:w.ownsRow Bs 56 1 G.sv G.sg.length (G.sg.map fun x=>x.1)
 keys:∀(i:Nat) (k:KyS),G.ks[i]? =some k->Bi k.seed k.h k.m w/\Bs<=k.m
 prs:∀(i:Nat) (p:Nat×PrS),G.ps[i]? =some p->C7 Bs w p.1 p.2/\Bs<=p.1
 sgs:∀(i:Nat) (x:Value×List Vt),G.sg[i]? =some x->w.ownsRow Bs 46 22 x.1 x.2.length (x.2.flatMap vtc)
 kn:∀(i j:Nat) (k k':KyS),G.ks[i]? =some k->G.ks[j]? =some k'->k.m=k'.m->i=j
 pn:∀(i j:Nat) (p p':Nat×PrS),G.ps[i]? =some p->G.ps[j]? =some p'->p.1=p'.1->i=j
 sn:∀(i j:Nat) (x y:Value×List Vt) (k:Nat),G.sg[i]? =some x->G.sg[j]? =some y->x.1.ownBlock=some k->y.1.ownBlock=some k->i=j
section
variable {Bs g:Nat}{w w':World}{G:GmS}
theorem Ax.below(h:Ax Bs w g G)(hb:Wx w w'):Ax Bs w' g G:=
 ⟨h.blk.below hb h.blk.lt,BP h.krow hb (AB _),BP h.prow hb (AB _),BP h.srow hb (AB _),fun i k hk=>⟨(h.keys i k hk).1.below hb,(h.keys i k hk).2⟩,fun i p hp=>⟨(h.prs i p hp).1.below hb,(h.prs i p hp).2⟩,fun i x hx=>BP (h.sgs i x hx) hb (AB _),h.kn,h.pn,h.sn⟩
theorem Ax.row_par(h:Ax Bs w g G):AK w g 2 8=some G.par.cells:=
 Blk.part h.blk 2 G.par.cells (fun j u hu=>by
  have hj:j<8:=(Aa.1 hu).1;rcases(by omega:j=0∨j=1∨j=2∨j=3∨j=4∨j=5∨j=6∨j=7)with rfl|rfl|rfl|rfl|rfl|rfl|rfl|rfl <;> exact hu)
abbrev GmS.setP(G:GmS)(i b:Nat)(P:PrS):GmS:={G with ps:=G.ps.set i (b,P)}
theorem Td{α β:Type}{l:List (α×β)}{i:Nat}{a:α}{b b':β}(h:l[i]? =some (a,b))(f:α->Value):(l.set i (a,b')).map (fun p=>f p.1)=l.map fun p=>f p.1:=by
 apply List.ext_getElem?;intro j;rw[AV,AV,List.getElem?_set];by_cases hj:i=j
 ·subst hj;have hl:=(AF.1 h).1;rw[if_pos rfl,if_pos hl,h];rfl
 ·rw[if_neg hj]
theorem Bu{α:Type}{l:List α}{i j:Nat}{x y:α}(h:(l.set i x)[j]? =some y):(i=j/\y=x)∨(i≠j/\l[j]? =some y):=by
 rw[List.getElem?_set]at h;by_cases hj:i=j
 ·rw[if_pos hj]at h;split at h
  ·injection h with h
   exact .inl ⟨hj,h.symm⟩
  ·cases h
 ·rw[if_neg hj]at h;exact .inr ⟨hj,h⟩
theorem Ax.setP{i b:Nat}{P P':PrS}(h:Ax Bs w g G)(hi:G.ps[i]? =some (b,P))(hg:w.grownBy w' (some b))(hP:C7 Bs w' b P'):Ax Bs w' g (G.setP i b P'):=by
 have hB:=(h.prs i _ hi).1.blk;have hm:∀(j:Nat) (k:KyS),G.ks[j]? =some k->k.m≠b:=fun j k hk e=>by
  obtain⟨_,_,tl,h3,_⟩:=(h.keys j k hk).1;exact(Off.map h3:Off w k.m 97) _ (e▸hB)
 refine⟨h.blk.off hg (.blk hB (by decide)),BK h.krow hg (.blk hB (by decide)),?_,BK h.srow hg (.blk hB (by decide)),fun j k hk=>⟨(h.keys j k hk).1.off hg (hm j k hk) (.blk hB (by decide)) (.blk hB (by decide)),(h.keys j k hk).2⟩,fun j p hp=>?_,fun j x hx=>BK (h.sgs j x hx) hg (.blk hB (by decide)),h.kn,fun j j' p p' hp hp' he=>?_,h.sn⟩
 ·have:=BK h.prow hg (.blk hB (by decide));show w'.ownsRow Bs _ 1 G.pv (G.ps.set i (b,P')).length ((G.ps.set i (b,P')).map fun p=>At p.1);rwa[Td hi,List.length_set]
 ·rcases Bu hp with⟨rfl,rfl⟩|⟨hj,hp⟩
  ·exact⟨hP,(h.prs i _ hi).2⟩
  ·have hne:p.1≠b:=fun e=>hj (h.pn i j _ _ hi hp e.symm)
   exact⟨(h.prs j p hp).1.off hg hne (.blk hB (by decide)) (.blk hB (by decide)) (.blk hB (by decide)),(h.prs j p hp).2⟩
 ·rcases Bu hp with⟨rfl,rfl⟩|⟨hj,hp⟩
  ·rcases Bu hp' with⟨h1,_⟩|⟨_,hp'⟩
   ·exact h1
   ·exact h.pn _ _ _ _ hi hp' he
  ·rcases Bu hp' with⟨rfl,rfl⟩|⟨_,hp'⟩
   ·exact h.pn _ _ _ _ hp hi he
   ·exact h.pn _ _ _ _ hp hp' he
theorem Ax.turnM{i:Nat}{k:KyS}(h:Ax Bs w g G)(hi:G.ks[i]? =some k)(hg:w.grownBy w' (some k.m))(hk:Bi k.seed k.h k.m w'):Ax Bs w' g G:=by
 obtain⟨_,_,tl,hM,_⟩:=(h.keys i k hi).1;have ho:∀t,Off w k.m t:=fun t=>.map hM
 refine⟨h.blk.off hg (ho _),BK h.krow hg (ho _),BK h.prow hg (ho _),BK h.srow hg (ho _),fun j k' hk'=>?_,fun j p hp=>?_,fun j x hx=>BK (h.sgs j x hx) hg (ho _),h.kn,h.pn,h.sn⟩
 ·by_cases hj:i=j
  ·subst hj;rw[hi]at hk';injection hk' with hk'
   subst hk';exact⟨hk,(h.keys i k hi).2⟩
  ·exact⟨(h.keys j k' hk').1.off hg (fun e=>hj (h.kn i j _ _ hi hk' e.symm)) (ho _) (ho _),(h.keys j k' hk').2⟩
 ·exact⟨(h.prs j p hp).1.off hg (fun e=>ho _ _ (e▸(h.prs j p hp).1.blk)) (ho _) (ho _) (ho _),(h.prs j p hp).2⟩
theorem Te{base e sb n c m:Nat}{u:Value}{xs:List Value}(h:w.ownsRow base e 1 (.slice (some ⟨sb,0,none⟩) n c) n xs):(w.setCell ⟨sb,m,none⟩ u).ownsRow base e 1 (.slice (some ⟨sb,0,none⟩) n c) n (xs.set m u):=by
 refine⟨by rw[List.length_set];exact h.1,?_⟩;rcases h.2 with⟨h0,_⟩|⟨g',cap,cur,hv,h1,h2,h3,h4,h5,h6⟩
 ·cases h0
 ·simp only[Value.slice.injEq,Option.some.injEq,Addr.mk.injEq,and_true,true_and]at hv;obtain⟨rfl,rfl⟩:=hv;have hB:Blk w sb e cur:=h2;refine .inr ⟨sb,c,cur.setIfInBounds m u,rfl,h1,hB.put m u,h3,h4,by rw[Array.size_setIfInBounds];exact h5,?_⟩;rw[Array.toList_setIfInBounds,<-h6,List.take_set]
abbrev GmS.setS(G:GmS)(m:Nat)(v:Value)(l:List Vt):GmS:={G with sg:=G.sg.set m (v,l)}
theorem Ru{l:List (Value×List Vt)}{m:Nat}{v:Value}{x:List Vt}:(l.set m (v,x)).map (fun x=>x.1)=(l.map fun x=>x.1).set m v:=by
 rw[List.map_set]
theorem Ax.setS{m sb n c:Nat}{v0 v1:Value}{l0 l1:List Vt}{w1:World}(h:Ax Bs w g G)(hm:G.sg[m]? =some (v0,l0))(hsv:G.sv= .slice (some ⟨sb,0,none⟩) n c)(hg:w.grownBy w1 v0.ownBlock)(xB:w1.ownsRow Bs 46 22 v1 l1.length (l1.flatMap vtc))(hat:v1.ownBlock=v0.ownBlock∨∃z,v1.ownBlock=some z/\w.heap.size<=z):Ax Bs (w1.setCell ⟨sb,m,none⟩ v1) g (G.setS m v1 l1)/\w1.grownBy (w1.setCell ⟨sb,m,none⟩ v1) (some sb):=by
 have hg2:w1.grownBy (w1.setCell ⟨sb,m,none⟩ v1) (some sb):=Bl (p:=⟨sb,m,none⟩) (Al w1 sb) rfl v1;have xQ:G.sg.length=n:=by
  have h2:=h.srow;rw[hsv]at h2;rcases h2.2 with⟨h0,_⟩|⟨g',cap,cur,hv,_⟩
  ·cases h0
  ·injection hv with _ hv _
   exact hv.symm
 --all else stands in w1
 have ho:∀(k:Nat) (t:TypeId),v0.ownBlock=some k->t≠46->Off w k t:=fun k t hk ht=>by
  rcases(h.sgs m _ hm).2 with⟨hv,_⟩|⟨g',cap,cur,hv,_,hh,_⟩
  ·rw[show v0=_ from hv]at hk;simp[Value.ownBlock]at hk
  ·rw[show v0=_ from hv]at hk;have:g'=k:=by simpa[Value.ownBlock]using hk
   subst this;exact .blk hh (fun e=>ht e.symm)
 have K1:∀{base e size n':Nat} {v:Value} {xs:List Value},e≠46->w.ownsRow base e size v n' xs->w1.ownsRow base e size v n' xs:=fun he hr=>by
  rcases hv:v0.ownBlock with _|k
  ·rw[hv]at hg;exact Ba hr hg (fun k hk=>by cases hk)
  ·rw[hv]at hg;exact BK hr hg (ho k _ hv he)
 have B1:∀{b t:Nat} {cs:Array Value},t≠46->Blk w b t cs->Blk w1 b t cs:=fun ht hB=>by
  rcases hv:v0.ownBlock with _|k
  ·rw[hv]at hg;exact hB.kept hg (by simp)
  ·rw[hv]at hg;exact hB.off hg (ho k _ hv ht)
 have Y1:∀(j:Nat) (k:KyS),G.ks[j]? =some k->Bi k.seed k.h k.m w1:=fun j k hk=>by
  have hK:=(h.keys j k hk).1;rcases hv:v0.ownBlock with _|z
  ·rw[hv]at hg;obtain⟨a1,a2,tl,a3,a4⟩:=hK;exact⟨a1.kept hg (by simp),a2,tl,a3.kept hg (by simp),fun a b hab=>by
    obtain⟨l,n,g,e1,e2,e3⟩:=a4 a b hab;exact⟨l,n,g,e1,e2,e3.kept hg (by simp)⟩⟩
  ·rw[hv]at hg;refine hK.off hg (fun e=>?_) (ho z _ hv (by decide)) (ho z _ hv (by decide));obtain⟨_,_,tl,a3,_⟩:=hK;rcases(h.sgs m _ hm).2 with⟨hv',_⟩|⟨g',cap,cur,hv',_,hh,_⟩
   ·rw[show v0=_ from hv']at hv;simp[Value.ownBlock]at hv
   ·rw[show v0=_ from hv']at hv;have:g'=z:=by simpa[Value.ownBlock]using hv
    subst this;exact(Off.map a3:Off w k.m 46) _ (e▸hh)
 have hs1:w1.ownsRow Bs 56 1 (.slice (some ⟨sb,0,none⟩) n c) n (G.sg.map fun x=>x.1):=by
  have:=K1 (by decide) h.srow;rwa[hsv,xQ]at this
 have hBs:∃cs,Blk w1 sb 56 cs:=by
  rcases hs1.2 with⟨h0,_⟩|⟨g',cap,cur,hv,_,hh,_⟩
  ·cases h0
  ·simp only[Value.slice.injEq,Option.some.injEq,Addr.mk.injEq,and_true,true_and]at hv;obtain⟨rfl,_⟩:=hv;exact⟨cur,hh⟩
 obtain⟨css,hBs⟩:=hBs;have o2:∀t,t≠56->Off w1 sb t:=fun t ht=>.blk hBs (fun e=>ht e.symm)
 refine⟨⟨(B1 (by decide) h.blk).off hg2 (o2 _ (by decide)),BK (K1 (by decide) h.krow) hg2 (o2 _ (by decide)),BK (K1 (by decide) h.prow) hg2 (o2 _ (by decide)),?_,fun j k hk=>⟨?_,(h.keys j k hk).2⟩,fun j p hp=>⟨?_,(h.prs j p hp).2⟩,fun j x hx=>?_,h.kn,h.pn,fun j j' x y k hx hy h1 h2=>?_⟩,hg2⟩
 ·show(w1.setCell ⟨sb,m,none⟩ v1).ownsRow Bs _ 1 G.sv (G.sg.set m (v1,l1)).length _;rw[hsv,Ru,List.length_set,xQ];exact Te hs1
 ·have hK:=Y1 j k hk;refine hK.off hg2 (fun e=>?_) (o2 _ (by decide)) (o2 _ (by decide));obtain⟨_,_,tl,a3,_⟩:=hK;exact(Off.map a3:Off w1 k.m 56) _ (e▸hBs)
 ·have hP:=(h.prs j p hp).1;refine C7.off (w:=w1) ⟨B1 (by decide) hP.blk,K1 (by decide) hP.row,fun s hs=>⟨(hP.sgs s hs).1,K1 (by decide) (hP.sgs s hs).2.1,(hP.sgs s hs).2.2⟩,K1 (by decide) hP.dec⟩ hg2 (fun e=>?_) (o2 _ (by decide)) (o2 _ (by decide)) (o2 _ (by decide));exact(o2 97 (by decide)) _ (e▸B1 (by decide) hP.blk)
 ·rcases Bu hx with⟨_,rfl⟩|⟨hj,hx⟩
  ·exact BK xB hg2 (o2 _ (by decide))
  ·refine BK (Ba (h.sgs j x hx) hg (fun k hk=>.inr (fun e=>hj (h.sn m j _ _ k hm hx hk e)))) hg2 (o2 _ (by decide))
 ·have hCR:∀(i:Nat) (x:Value×List Vt) (z:Nat),G.sg[i]? =some x->x.1.ownBlock=some z->z<w.heap.size:=fun i x z hx hz=>((h.sgs i x hx).lt z hz).2
  rcases Bu hx with⟨rfl,rfl⟩|⟨hj,hx⟩
  ·rcases Bu hy with⟨h3,_⟩|⟨hj',hy⟩
   ·exact h3
   ·rcases hat with ha|⟨z,ha,hz⟩
    ·exact h.sn _ _ _ _ k hm hy (by rw[<-ha];exact h1) h2
    ·have hk:z=k:=by rw[show v1.ownBlock=_ from ha]at h1;injection h1
     have:=hCR j' y k hy h2;omega
  ·rcases Bu hy with⟨rfl,rfl⟩|⟨hj',hy⟩
   ·rcases hat with ha|⟨z,ha,hz⟩
    ·exact h.sn _ _ _ _ k hx hm h1 (by rw[<-ha];exact h2)
    ·have hk:z=k:=by rw[show v1.ownBlock=_ from ha]at h2;injection h2
     have:=hCR j x k hx h1;omega
   ·exact h.sn _ _ _ _ k hx hy h1 h2
end
end
section
open Go.RowKit
attribute [local go_sem ↓] Go.wp_at_zero Go.wp_at_succ Aq Au Av Aw
attribute [local go_sem] BE BL BM BN AR AX AU
def EY(l:List VS):List Vt:=(Cc l).map (·.1)
theorem C7.okS{Bs:Nat}{w:World}{b:Nat}{P:PrS}(h:C7 Bs w b P):IJ w w.heap.size P.L:=fun s hs=>(h.sgs s hs).ok
theorem Gi{Bs:Nat}{w:World}{b:Nat}{P:PrS}(h:C7 Bs w b P)(hsm:P.L.length<=1000000):Calls prog 44 #[At b] w (El w (EY (P.L.map Sg.vs))):=by
 obtain⟨A,c,hv,hr⟩:=Bg h.row;have y0:w.cell? ⟨b,0,none⟩=some (.slice A P.L.length c):=by rw[<-hv];exact h.blk.cell 0
 have HV:=AA (JQ A P.L.length c P.L w rfl hr h.okS hsm);obtain⟨n,hn⟩:=Wr P.L.length;rw[<-hn]at y0 HV;obtain⟨D,hD⟩:=Wr (EY (P.L.map Sg.vs));have HV':Hid (Calls prog 47 #[.slice A n c] w (El w D)):=by unfold Hid;rw[hD];exact HV.out
 rw[<-hD];clear h hv hr hsm hn hD HV;go_enter func44,ntmps44;go_wp2_with fail
 refine HV'.out.mono ?_;rintro en w2 ⟨v,rfl,hb2,xB⟩;have xF:=AA xB;clear xB;go_wp2;go_ret;exact⟨v,rfl,hb2,xF.out⟩
abbrev PrS.more(P:PrS)(v:Value)(L:List Sg):PrS:={P with v:=v,L:=L}
def Tf(Bs:Nat)(w:World)(b:Nat)(P:PrS)(l:List Sg)(e:Ending)(w':World):Prop:=
 ∃(v:Value) (L:List Sg),e= .returned (.tuple #[])/\C7 Bs w' b (P.more v L)/\L.map Sg.vs=Cc ((P.L++l).map Sg.vs)/\w.grownBy w' (some b)
theorem Li{Bs:Nat}{w:World}{b:Nat}{P:PrS}(h:C7 Bs w b P)(hBs:Bs<=w.heap.size)(A2:Option Addr)(n2 c2:Nat)(l:List Sg)(hn2:l.length=n2)(hr2:Rd w w.heap.size A2 (l.flatMap sgc))(hEp:IJ w w.heap.size l)(hsm:P.L.length+n2<=1000000):Calls prog 76 #[At b,.slice A2 n2 c2] w (Tf Bs w b P l):=by
 obtain⟨A,c,hv,hr⟩:=Bg h.row;have y0:w.cell? ⟨b,0,none⟩=some (.slice A P.L.length c):=by rw[<-hv];exact h.blk.cell 0
 obtain⟨n,hn⟩:=Ws P.L.length;rw[hn]at y0 hsm;have HP:=AA h;have HNn:=AA hn;have HN2:=AA hn2;have HR:=AA hr;have HR2:=AA hr2;have HOk4:Hid (∀V,Wx w V->IJ V V.heap.size (P.L++l)):=fun V hV s hs=>by
  rcases AP.1 hs with hs|hs
  ·exact((h.below hV).sgs s hs).ok
  ·exact⟨((hEp s hs).1.below hV).more hV.size,(hEp s hs).2⟩
 clear h hv hr hn hn2 hr2 hEp;go_enter func76,ntmps76;go_wp2_with (first
  |(at_builtin;refine Ar rfl (.const (.slice none 0 0)) (.tmp 8) _ rfl w.heap.size 62 (.agg BI) 23 88 underlying50 DJ rfl (by decide) (.slice none 0 0) 0 [] rfl ⟨by simp,.inl ⟨rfl,rfl⟩⟩ w.heap.size A n c (P.L.flatMap sgc) rfl (by rw[AY sgc 23 P.L (C0 P.L),HNn.out]) HR.out (fun u hu=>by obtain⟨s,_,hs⟩:=List.mem_flatMap.1 hu;exact s.one u hs) (by omega) (by unfold maxLen;omega) (AB _) ?_;intro v3 w3 xC hg3 zO;change w.grownBy w3 none at hg3;have hb3:Wx w w3:=(AC _ w).grown hg3 (AB _) (fun k hk=>by cases hk);rw[Nat.zero_add,List.nil_append]at xC;obtain⟨A3,c3,rfl,hr3⟩:=Bg xC;have yH:=AA xC;have hGk:Hid (Rd w3 w3.heap.size A2 (l.flatMap sgc)):=(HR2.out.below hb3).more hb3.size;clear xC hg3 zO hr3)
  |(at_builtin;refine Ar rfl (.tmp 9) (.tmp 10) _ rfl w.heap.size 62 (.agg BI) 23 88 underlying50 DJ rfl (by decide) _ n (P.L.flatMap sgc) rfl yH.out w3.heap.size A2 n2 c2 (l.flatMap sgc) rfl (by rw[AY sgc 23 l (C0 l),HN2.out]) hGk.out (fun u hu=>by obtain⟨s,_,hs⟩:=List.mem_flatMap.1 hu;exact s.one u hs) (by omega) (by unfold maxLen;omega) hb3.size ?_;intro v4 w4 xX hg4 hDb;have hb4:Wx w w4:=BO hb3 yH.out hg4;rw[<-Af]at xX;obtain⟨A4,c4,rfl,hr4⟩:=Bg xX;have hDL:=AA (Ko A4 (n+n2) c4 (P.L++l) w4 (by rw[AI,HNn.out,HN2.out]) hr4 (HOk4.out w4 hb4) hsm);clear xX hg4 hDb hr4)
  |fail)
 have hP4:=HP.out.below hb4;have HP4:=AA hP4;clear hP4 yH hGk y0;go_wp2_with fail
 refine hDL.out.mono ?_;rintro en w5 ⟨L,v5,rfl,hb5,xW,hDp,hGl⟩;have hbs:Bs<=w4.heap.size:=AG hBs hb4.size;have hP5:=HP4.out.below hb5;have y5:w5.cell? ⟨b,0,none⟩=some P.v:=hP5.blk.cell 0;have y6:w5.frozen? ⟨b,0,none⟩=false:=hP5.blk.frozen 0;obtain⟨A5,c5,rfl⟩:=BD xW;have hEq:=hb4.trans (hb5.mono hb4.size);have xr:Hid (w5.ownsRow Bs 62 23 (.slice A5 L.length c5) L.length (L.flatMap sgc)):=BS xW hbs;have HSg5:Hid (∀s∈L,CC w5 Bs s):=fun s hs=>⟨(hDp s hs).1,BS (hDp s hs).2.1 hbs,(hDp s hs).2.2⟩
 have HCn:=AA hGl;have HP5:=AA hP5;clear xW hDp hGl hP5 hb5 hDL;go_wp2;go_end0;have hg6:w5.grownBy (w5.setCell ⟨b,0,none⟩ (.slice A5 L.length c5)) (some b):=Bl (p:=⟨b,0,none⟩) (Al w5 b) rfl _;have hB5:=HP5.out.blk;refine⟨_,L,rfl,⟨hB5.put 0 _,BK xr.out hg6 (.blk hB5 (by decide)),fun s hs=>(HSg5.out s hs).off hg6 (.blk hB5 (by decide)),BK HP5.out.dec hg6 (.blk hB5 (by decide))⟩,HCn.out,?_⟩;exact(Br hEq).trans hg6
theorem Hu:(prog.info? 56).map (·.size)=some 1:=by kernel_rfl
theorem CT{w:World}{base e n i:Nat}{v u:Value}{xs:List Value}(h:w.ownsRow base e 1 v n xs)(hx:xs[i]? =some u):∃kb c,v= .slice (some ⟨kb,0,none⟩) n c/\w.cell? ⟨kb,i,none⟩=some u/\(∃cs,Blk w kb e cs)/\i<n:=by
 have hi:=(AF.1 hx).1;rcases h.2 with⟨_,h0⟩|⟨g,cap,cur,hv,h1,h2,h3,h4,h5,h6⟩
 ·have:=h.1;rw[h0]at this;omega
 ·have hin:i<n:=by have:=h.1;omega
  refine⟨g,cap,hv,?_,⟨cur,h2⟩,hin⟩;rw[Blk.cell (show Blk w g e cur from h2),<-hx,<-h6,BT,if_pos (by omega)];simp
theorem Ec{o:Oper}{a:Act}{w:World}(x:Operand)(ho:o.op= .load 56 x)(g i:Nat)(hx:a.eval x= .pointer (some ⟨g,i,none⟩))(u:Value)(hc:w.cell? ⟨g,i,none⟩=some u):(execOp a.eval o).run prog w= .ok (.value u) w:=by
 unfold execOp;rw[ho];simp only[hx];go_simp
theorem DP{op:Oper}{a:Act}{w:World}{K:Act->World->Prop}{Q:Exit->Act->World->Prop}{ty:TypeId}(x y:Operand)(ho:op.op= .store ty x y)(g i:Nat)(u:Value)(hx:a.eval x= .pointer (some ⟨g,i,none⟩))(hy:a.eval y=u)(hB:(∃u0,w.cell? ⟨g,i,none⟩=some u0)/\w.frozen? ⟨g,i,none⟩=false)(hz:(prog.info? ty).map (·.size)=some 1)(h1:u.oneCell'=true)(hd:op.dst=none)(h:K a (w.setCell ⟨g,i,none⟩ u)):op.wp prog a w K Q:=by
 obtain⟨ie,hie,hs⟩:=Option.map_eq_some_iff.1 hz;obtain⟨⟨u0,hu⟩,hf⟩:=hB;have xK:=Lib.rl_storeVar_one (P:=prog) ty ie hie hs ⟨g,i,none⟩ u u0 h1 w hu hf;unfold Oper.wp execOp;simp only[ho,hx,hy,Instr.storeAt,Instr.sureAddr,Sem.run_bind,Sem.run_pure,Result.andThen_ok,xK];have e:a.put op.dst undef=a:=by rw[hd];rfl
 rw[<-e]at h;exact h
theorem GP{w:World}(v:Value):w.grownBy w.drew v.ownBlock:=⟨rfl,rfl,rfl,AB _,fun _ _ _=>rfl⟩
theorem E8{w:World}(v:Value)(o:Obj):w.grownBy (w.drew.alloc o) v.ownBlock:=by
 have h:w.grownBy (w.drew.alloc o) (some w.heap.size):=Br ((AC w.heap.size w).drew.alloc (AB _) o);exact⟨h.os,h.tape,h.output,h.size,fun i hi _=>h.block i hi (fun e=>by injection e with e;omega)⟩
theorem JF{w w7 w8:World}{row:Option Nat}(hb:Wx w w7)(hg:w7.grownBy w8 row):w.grownBy w8 row:=⟨hg.os.trans hb.os,hg.tape.trans hb.tape,hg.output.trans hb.output,AG hb.size hg.size,fun i hi hne=>(hg.block i (Nat.lt_of_lt_of_le hi hb.size) hne).trans (hb.block i hi)⟩
theorem WI{v:Vt}(h:AW v):v.ok:=⟨by have:=h.2.2.2.1;omega,by have:=h.2.2.2.1;omega⟩
def SwG(base:Nat)(v:Vt)(sig:List UInt8)(ok:Bool)(cs:Array Value)(w:World):Prop:=if ok=true then SgG base v sig cs w else cs=BI
theorem SwG.one{base:Nat}{v:Vt}{sig:List UInt8}{ok:Bool}{cs:Array Value}{V:World}(h:SwG base v sig ok cs V):cs.size=23/\∀u∈cs.toList,u.oneCell'=true:=by
 cases ok with
 |true=>exact SgG.one h
 |false=>have h':cs=BI:=h;subst h';exact⟨rfl,fun u hu=>OI hu⟩
theorem SwG.kept{base:Nat}{v:Vt}{sig:List UInt8}{ok:Bool}{cs:Array Value}{V V':World}{r t:Nat}{x:Array Value}(h:SwG base v sig ok cs V)(hB:Blk V r t x)(ht:5≠t)(hg:V.grownBy V' (some r)):SwG base v sig ok cs V':=by
 cases ok with
 |true=>exact SgG.kept h hB ht hg
 |false=>exact h
theorem SwG.below{base:Nat}{v:Vt}{sig:List UInt8}{ok:Bool}{cs:Array Value}{V V':World}(h:SwG base v sig ok cs V)(hb:Wx V V'):SwG base v sig ok cs V':=by
 cases ok with
 |true=>
  obtain⟨A,c,rfl,ho⟩:=(h:SgG base v sig cs V);exact⟨A,c,rfl,BP ho hb (AB _)⟩
 |false=>exact h
theorem K0{s:Nm}{h m leaf base:Nat}{v:Vt}{w:World}{ok:Bool}(hk:Bi s h m w)(hv:v.ok)(hok:ok=true↔AW v/\leaf<1024)(yJ:base<=w.heap.size):Calls prog 77 #[At h,.int .i64 (leaf:Int),v.val] w fun e w'=>∃cs,e= .returned (.tuple #[.agg cs,.bool ok])/\SwG base v (Ex s leaf (Dx v)) ok cs w'/\w.grownBy w' (some m)/\Bi s h m w':=by
 cases ok with
 |true=>
  obtain⟨hy,hl⟩:=hok.1 rfl;exact(Kd s h m leaf base v w hv hk hl hy yJ).mono fun e w' ⟨⟨cs,h1,h2,h3⟩,h4⟩=>⟨cs,h1,h2,h3,h4⟩
 |false=>
  have hn:¬(AW v/\leaf<1024):=fun x=>by have:=hok.2 x;cases this
  by_cases hy:AW v
  ·have hl:¬leaf<1024:=fun x=>hn ⟨hy,x⟩
   exact(Mg s h m (leaf:Int) v w hv hk.1 (.inr (by omega)) hy).mono fun e w' ⟨h1,h2⟩=>⟨BI,h1,rfl,Br h2,hk.below h2⟩
  ·exact(Lh (some ⟨h,0,none⟩) (leaf:Int) v w hv hy).mono fun e w' ⟨h1,h2⟩=>⟨BI,h1,rfl,Br h2,hk.below h2⟩
theorem WJ(c:Prop):∃ok:Bool,(ok=true↔c):=by
 by_cases h:c
 ·exact⟨true,by simp[h]⟩
 ·exact⟨false,by simp[h]⟩
theorem Lj{Bs g m sb n c nl:Nat}{w w1:World}{G:GmS}{v0 v1:Value}{sl:List Vt}{v:Vt}(h:Ax Bs w g G)(hm:G.sg[m]? =some (v0,sl))(hsv:G.sv= .slice (some ⟨sb,0,none⟩) n c)(hnl:sl.length=nl)(hg:w.grownBy w1 v0.ownBlock)(xB:w1.ownsRow Bs 46 22 v1 (nl+1) (sl.flatMap vtc++vtc v))(hat:v1.ownBlock=v0.ownBlock∨v1.ownBlock=some w.heap.size):(Ax Bs (w1.setCell ⟨sb,m,none⟩ v1) g (G.setS m v1 (sl++[v]))/\w1.grownBy (w1.setCell ⟨sb,m,none⟩ v1) (some sb))/\((∃u,w1.cell? ⟨sb,m,none⟩=some u)/\w1.frozen? ⟨sb,m,none⟩=false)/\w.grownBy w1 v0.ownBlock/\∀k,v0.ownBlock=some k->Bs<=k:=by
 have hCC:w1.ownsRow Bs 46 22 v1 (sl++[v]).length ((sl++[v]).flatMap vtc):=by
  rw[AI,Af,hnl];simpa using xB
 refine⟨h.setS hm hsv hg hCC (hat.imp id fun e=>⟨_,e,AB _⟩),?_,hg,fun k hk=>((h.sgs m _ hm).lt k hk).1⟩;have hs:=h.srow;rw[hsv]at hs;obtain⟨kb,c',hv,hc,⟨cs,hB⟩,hin⟩:=CT (i:=m) (u:=v0) hs (by rw[AV,hm];rfl);have hkb:sb=kb:=by
  injection hv with h1
  injection h1 with h1
  injection h1 with h1
 subst hkb;have hB1:Blk w1 sb 56 cs:=hB.kept hg (fun e=>by
  rcases(h.sgs m _ hm).2 with⟨hv',_⟩|⟨g',cap,cur,hv',_,hh,_⟩
  ·rw[show v0=_ from hv']at e;simp[Value.ownBlock]at e
  ·rw[show v0=_ from hv']at e;have:sb=g':=by simpa[Value.ownBlock]using e
   subst this;exact absurd (Cw hB hh) (by decide))
 exact⟨⟨v0,by rw[hB1.cell,<-hB.cell];exact hc⟩,hB1.frozen m⟩
theorem Ll{Bs g z:Nat}{w w':World}{G:GmS}{cs:Array Value}(h:Ax Bs w g G)(hZ:Blk w z 62 cs)(hg:w.grownBy w' (some z))(hn:∀(i:Nat) (p:Nat×PrS),G.ps[i]? =some p->p.2.v.ownBlock≠some z):Ax Bs w' g G:=by
 have ho:∀t,t≠62->Off w z t:=fun t ht=>.blk hZ (fun e=>ht e.symm)
 refine⟨h.blk.off hg (ho _ (by decide)),BK h.krow hg (ho _ (by decide)),BK h.prow hg (ho _ (by decide)),BK h.srow hg (ho _ (by decide)),fun j k hk=>⟨?_,(h.keys j k hk).2⟩,fun j p hp=>⟨?_,(h.prs j p hp).2⟩,fun j x hx=>BK (h.sgs j x hx) hg (ho _ (by decide)),h.kn,h.pn,h.sn⟩
 ·have hK:=(h.keys j k hk).1;refine hK.off hg (fun e=>?_) (ho _ (by decide)) (ho _ (by decide));obtain⟨_,_,tl,a3,_⟩:=hK;exact(Off.map a3:Off w k.m 62) _ (e▸hZ)
 ·have hP:=(h.prs j p hp).1;exact⟨hP.blk.off hg (ho _ (by decide)),Ba hP.row hg (fun k hk=>.inr (by injection hk with hk;subst hk;exact hn j p hp)),fun s hs=>(hP.sgs s hs).off hg (ho _ (by decide)),BK hP.dec hg (ho _ (by decide))⟩
theorem Lm{Bs g:Nat}{w:World}{G:GmS}(h:Ax Bs w g G){z:Nat}(hz:w.heap.size<=z)(i:Nat)(p:Nat×PrS)(hp:G.ps[i]? =some p):p.2.v.ownBlock≠some z:=fun e=>by
 have:=((h.prs i p hp).1.row.lt z e).2;omega
theorem Rv{Bs g:Nat}{w w':World}{G:GmS}{cs:Array Value}(h:Ax Bs w g G)(hg:(w.alloc (.cells cs 62)).grownBy w' (some w.heap.size)):Ax Bs w' g G:=
 Ll (h.below ((AC _ w).alloc (AB _) _)) (Blk.new w _ _) hg (Lm h (AB _))
abbrev PrS.signd(P:PrS)(v:Value)(L:List Sg):PrS:={P with v:=v,L:=L,leaf:=P.leaf+1}
def Rw(Bs g i b:Nat)(G:GmS)(P:PrS)(k:KyS)(sl:List Vt)(v:Vt)(w:World)(e:Ending)(w':World):Prop:=
 Below Bs w w'/\((¬(AW v/\P.leaf<1024)/\e= .returned (.bool false)/\Ax Bs w' g G)∨
  ((AW v/\P.leaf<1024)/\e= .returned (.bool true)/\∃(va vs:Value) (L:List Sg),L.map Sg.vs=Cc (P.L.map Sg.vs++[(v,Ex k.seed P.leaf (Dx v))])/\Ax Bs w' g ((G.setP i b (P.signd va L)).setS P.mem vs (sl++[v]))))
theorem Rx{Bs g i b:Nat}{w:World}{G:GmS}{P:PrS}{k:KyS}{sv0:Value}{sl:List Vt}(h:Ax Bs w g G)(hBs:Bs<=w.heap.size)(hi:G.ps[i]? =some (b,P))(hk:G.ks[P.mem]? =some k)(hs:G.sg[P.mem]? =some (sv0,sl))(v:Vt)(hv:v.ok)(hsm:P.L.length<1000000)(hsl:sl.length<1000000):Calls prog 74 #[At g,At b,v.val] w (Rw Bs g i b G P k sl v w):=by
 obtain⟨w1,hw1⟩:=Wr (w.alloc (.cells v.cells 46));have hb1:Wx w w1:=by rw[hw1];exact(AC _ _).alloc (AB _) _
 have h1:Ax Bs w1 g G:=h.below hb1;obtain⟨q,hq⟩:=Wr w.heap.size;have hV1:Blk w1 q 46 v.cells:=by rw[hw1,hq];exact Blk.new w _ _
 have hqB:Bs<=q:=by omega
 obtain⟨kb,kc,hkv,hkc,⟨kcs,hkB⟩,hkn⟩:=CT (i:=P.mem) (u:=At k.h) h1.krow (by rw[AV,hk];rfl);have hP1:=(h1.prs i _ hi).1;have hK1:=(h1.keys _ k hk).1;have HCs:Hid (∀V,w1.grownBy V (some k.m)->V.cell? ⟨g,10,none⟩=some (.slice (some ⟨kb,0,none⟩) G.ks.length kc)/\V.cell? ⟨b,1,none⟩=some (.int .i64 (P.mem:Int))/\V.cell? ⟨kb,P.mem,none⟩=some (At k.h)/\V.cell? ⟨b,3,none⟩=some (.int .i64 (P.leaf:Int))/\AK V q 0 22=some v.cells):=fun V hV=>by
  obtain⟨_,_,tl,hM,_⟩:=hK1;have ho:∀t,Off w1 k.m t:=fun t=>.map hM
  refine⟨?_,(hP1.blk.off hV (ho _)).cell 1,?_,(hP1.blk.off hV (ho _)).cell 3,(hV1.off hV (ho _)).row 22 rfl⟩
  ·rw[<-hkv];exact(h1.blk.off hV (ho _)).cell 10
  ·rw[(hkB.off hV (ho _)).cell,<-hkB.cell];exact hkc
 have hmn:(P.mem:Int)<(G.ks.length:Int):=by omega
 obtain⟨nk,hnk⟩:=Wr G.ks.length;rw[<-hnk]at HCs hmn hkn;obtain⟨ok,hok⟩:∃ok:Bool,(ok=true↔AW v/\P.leaf<1024):=WJ _;obtain⟨sig,zr⟩:=Wr (Ex k.seed P.leaf (Dx v));have HSW:Hid (∀V,Ax Bs V g G->Bs<=V.heap.size->Calls prog 77 #[At k.h,.int .i64 (P.leaf:Int),v.val] V fun e w'=>∃cs,e= .returned (.tuple #[.agg cs,.bool ok])/\SwG Bs v sig ok cs w'/\V.grownBy w' (some k.m)/\Ax Bs w' g G):=fun V hV hBV=>by
  rw[zr];exact(K0 (hV.keys _ k hk).1 hv hok hBV).mono fun e w' ⟨cs,a1,a2,a3,a4⟩=>⟨cs,a1,a2,a3,hV.turnM hk a3 a4⟩
 have hEr:=(h1.keys _ k hk).2;have hkm1:k.m<w1.heap.size:=by obtain⟨_,_,tl,hM,_⟩:=hK1;exact hM.lt
 have hBY:Hid (sv0.ownBlock≠some q):=fun e=>by
  have:=((h.sgs _ _ hs).lt q e).2;omega
 have HG1:=AA h1;have HV1:=AA hV1;have HI:=AA hi;have HK:=AA hk;have HS:=AA hs;have HV:=AA hv;have HOk:=AA hok;have hCS:=AA zr;have HW1:=AA hw1;have HQ:=AA hq;have hEs:Below Bs w w1:=hb1.mono hBs;have yE:Bs<=w1.heap.size:=AG hBs hb1.size;have HMv:Hid (∀V,w1.grownBy V (some k.m)->Blk V q 46 v.cells):=fun V hV=>by
  obtain⟨_,_,tl,hM,_⟩:=hK1;exact hV1.off hV (.map hM)
 have hql:q<w1.heap.size:=hV1.lt;clear h h1 hi hk hs hw1 hq hV1 hkv hkc hkB hP1 hK1 hnk hok zr hv hb1;go_enter func74,ntmps74;go_upto_region 1 with fail
 simp only[<-HW1.out,<-HQ.out];go_cut[7,8] (fun pv bv wx=>∃z cs,pv= .pointer (some ⟨z,0,none⟩)/\bv= .bool ok/\Blk wx z 62 cs/\SwG Bs v sig ok cs wx/\Ax Bs wx g G/\Blk wx q 46 v.cells/\w1.heap.size<=z/\w1.grownBy wx (some k.m))
 case first=>
  refine rgD (fun V=>V.cell? ⟨g,10,none⟩=some (.slice (some ⟨kb,0,none⟩) nk kc)/\V.cell? ⟨b,1,none⟩=some (.int .i64 (P.mem:Int))/\V.cell? ⟨kb,P.mem,none⟩=some (At k.h)/\V.cell? ⟨b,3,none⟩=some (.int .i64 (P.leaf:Int))/\AK V q 0 22=some v.cells) (HCs.out _ (BZ (Al w1 k.m))) fun _=>?_
  iterate 15 (refine tkA ?_;go_frame)
  refine rd2 15 19 (fun K hK=>?_) fun K hK=>?_
  ·go_simp;refine(HSW.out _ (HG1.out.below (AC _ w1).drew) yE).mono ?_;rintro en w3 ⟨cs,rfl,hsw,hg3,zB⟩;have yX:w1.grownBy w3 (some k.m):=(BZ (Al w1 k.m)).trans hg3;have HSw:=AA hsw;have HGm:=AA zB;clear hsw hg3 zB;go_wp2_with fail
   refine hK.out _ _ (HCs.out _ yX) (fun _=>?_);clear hK K;try go_frame
   refine tkD 9 16 ?_;go_frame;refine tkD 26 17 ?_;go_frame;refine tkD 27 18 ?_;go_frame;refine rd1 19 fun K hK=>?_
   go_simp;refine hK.out _ _ (HCs.out _ (Bm yX _)) (fun _=>?_);clear hK K;try go_frame
   refine rd1 20 fun K hK=>?_
   rw[if_pos (by rfl)];refine BU 62 (.tmp 7) (.tmp 26) (by rfl) w3.heap.size cs (by rfl) (by rfl) 62 BI (Blk.new w3 _ _) (by rw[HSw.out.one.1];rfl) (by rw[HSw.out.one.1];exact DT) HSw.out.one.2 (by rfl) ?_;intro w5 hR5 hg5 yi;have yj:w1.grownBy w5 (some k.m):=(Bm yX _).andThen hg5 (Wt (.inl yX.size));refine hK.out _ _ (HCs.out _ yj) (fun _=>?_);clear hK K;try go_frame
   refine tkD 8 21 ?_;go_frame;refine dnD ?_;go_wp2_with fail
   go_meet;refine⟨w3.heap.size,cs,rfl,rfl,hR5,(HSw.out.below ((AC _ w3).alloc (AB _) _)).kept (Blk.new w3 _ _) (by decide) hg5,Rv HGm.out hg5,HMv.out _ yj,yX.size,yj⟩
  ·go_simp;refine hK.out _ _ (HCs.out _ (Bm (BZ (Al w1 k.m)) _)) (fun _=>?_);clear hK K;try go_frame
   refine rd1 15 fun K hK=>?_
   go_simp;refine(HSW.out _ (HG1.out.below ((AC _ w1).alloc (AB _) _).drew) (AG yE (by simp))).mono ?_;rintro en w3 ⟨cs,rfl,hsw,hg3,zB⟩;have yX:w1.grownBy w3 (some k.m):=(BZ (Bm (Al w1 k.m) _)).trans hg3;have HSw:=AA hsw;have HGm:=AA zB;have hZ3:Blk w3 w1.heap.size 62 BI:=Blk.kept (w:=(w1.alloc (.cells BI 62)).drew) (Blk.new w1 _ _) hg3 (by intro e;injection e with e;omega);have HZ3:=AA hZ3;clear hsw hg3 zB hZ3;go_wp2_with fail
   refine hK.out _ _ (HCs.out _ yX) (fun _=>?_);clear hK K;try go_frame
   refine tkD 9 16 ?_;go_frame;refine tkD 26 17 ?_;go_frame;refine tkD 27 18 ?_;go_frame;refine rd1 20 fun K hK=>?_
   rw[if_pos (by rfl)];refine BU 62 (.tmp 7) (.tmp 26) (by rfl) w1.heap.size cs (by rfl) (by rfl) 62 BI (HZ3.out) (by rw[HSw.out.one.1];rfl) (by rw[HSw.out.one.1];exact DT) HSw.out.one.2 (by rfl) ?_;intro w5 hR5 hg5 yi;have yj:w1.grownBy w5 (some k.m):=yX.andThen hg5 (Wt (.inl (AB _)));refine hK.out _ _ (HCs.out _ yj) (fun _=>?_);clear hK K;try go_frame
   refine tkD 8 21 ?_;go_frame;refine dnD ?_;go_wp2_with fail
   go_meet;refine⟨w1.heap.size,cs,rfl,rfl,hR5,HSw.out.kept (HZ3.out) (by decide) hg5,Ll HGm.out HZ3.out hg5 (Lm HG1.out (AB _)),HMv.out _ yj,AB _,yj⟩
 case rest=>
  obtain⟨z,cs,rfl,rfl,hZ,hsw,hgm,hVq,hz,hg⟩:=hcut;generalize wc=w3 at*;have hDq:Below Bs w w3:=hEs.grown hg yE (Wt hEr);have zj:Bs<=w3.heap.size:=AG yE hg.size;have HGm:=AA hgm;have HZ:=AA hZ;have HVq:=AA hVq;clear hgm hZ hVq HSW HCs HG1 HV1 hg;cases ok with
  |false=>
   have hlf:¬(AW v/\P.leaf<1024):=fun x=>by
    have:=HOk.out.2 x;cases this
   go_wp2;go_ret;exact⟨hDq,.inl ⟨hlf,rfl,HGm.out⟩⟩
  |true=>
   have hvl:AW v/\P.leaf<1024:=HOk.out.1 rfl;have hlf:P.leaf<1024:=hvl.2;obtain⟨A,c,rfl,xB⟩:=(hsw:SgG Bs v sig cs w3);have xF:=AA xB;have hP:=(HGm.out.prs i _ HI.out).1;have y3:w3.cell? ⟨b,3,none⟩=some (.int .i64 (P.leaf:Int)):=hP.blk.cell 3;have y4:w3.frozen? ⟨b,3,none⟩=false:=hP.blk.frozen 3;have hwl:IntKind.i64.wrap ((P.leaf:Int)+1)=(P.leaf:Int)+1:=by rw[IntKind.wrap_i64];omega
   clear xB hP;go_upto_region 5 with fail
   obtain⟨w4,hw4⟩:=Wr (w3.setCell ⟨b,3,none⟩ (.int .i64 ((P.leaf:Int)+1)));rw[<-hw4];replace hw4:w4=w3.setCell ⟨b,3,none⟩ (.int .i64 ((P.leaf+1:Nat):Int)):=hw4;have hg4:w3.grownBy w4 (some b):=by rw[hw4];exact Bl (p:=⟨b,3,none⟩) (Al w3 b) rfl _
   have hbB:Bs<=b:=(HGm.out.prs i _ HI.out).2;obtain⟨P1,hP1⟩:∃P1:PrS,P1={P with leaf:=P.leaf+1}:=⟨_,rfl⟩;have hBZ:=(HGm.out.prs i _ HI.out).1.blk;have hA4:C7 Bs w4 b P1:=by
    have hP:=(HGm.out.prs i _ HI.out).1;rw[hP1];refine⟨by rw[hw4];exact hP.blk.put 3 _,BK hP.row hg4 (.blk hBZ (by decide)),fun s hs=>(hP.sgs s hs).off hg4 (.blk hBZ (by decide)),BK hP.dec hg4 (.blk hBZ (by decide))⟩
   have hG4:Ax Bs w4 g (G.setP i b P1):=HGm.out.setP HI.out hg4 hA4;have hZ4:Blk w4 z 62 (Sg.mk v sig A c).cells:=HZ.out.off hg4 (.blk hBZ (by decide));have hV4:Blk w4 q 46 v.cells:=HVq.out.off hg4 (.blk hBZ (by decide));have ho4:CC w4 Bs (Sg.mk v sig A c):=⟨HV.out,BK xF.out hg4 (.blk hBZ (by decide)),by show sig.length<=_;rw[hCS.out,KV];omega⟩;have hBa:Below Bs w w4:=hDq.grown hg4 zj (Wt hbB);have yS:Bs<=w4.heap.size:=AG zj hg4.size;have HX0:Hid (∀V,w4.grownBy V (some b)->AK V z 0 23=some (Sg.mk v sig A c).cells):=fun V hV=>(hZ4.off hV (.blk hA4.blk (by decide))).row 23 (Sg.size_cells _)
   have x1:AK w4.drew z 0 23=some (Sg.mk v sig A c).cells:=hZ4.row 23 (Sg.size_cells _);obtain⟨s,hs⟩:=Wr (Sg.mk v sig A c);rw[<-hs]at x1 hZ4 ho4 HX0;have HX:=HX0;have HG4:=AA hG4;have HA4:=AA hA4;have HZ4:=AA hZ4;have HV4:=AA hV4;have HO4:=AA ho4;have HSe:=AA hs;have HP1:=AA hP1;have hsc:s.cells.size=23:=Sg.size_cells s;have hP1L:P1.L=P.L:=by rw[hP1]
   have hP1m:P1.mem=P.mem:=by rw[hP1]
   have HL1:=AA hP1L;have HM1:=AA hP1m;have hzw:z<w4.heap.size:=HZ4.out.lt;clear hw4 hG4 hA4 hZ4 hV4 ho4 hs hP1 hP1L hP1m hBZ hg4 HGm HZ HVq xF y3 y4;obtain⟨w5,hw5⟩:=Wr (w4.drew.alloc (.cells s.cells 62));have xf:Wx w4 w5:=by rw[hw5];exact(AC w4.heap.size w4).drew.alloc (AB _) _
   obtain⟨wb,hwb⟩:=Wr w4.heap.size;have hW5:Blk w5 wb 62 s.cells:=by rw[hw5,hwb];exact Blk.new w4.drew _ _
   have hr5:Rd w5 w5.heap.size (some ⟨wb,0,none⟩) ([s].flatMap sgc):=by
    have:=Rd.of_blk hW5 0 23;rw[List.drop_zero,AT (by rw[Array.length_toList,hsc];exact AB _)]at this;simpa using this
   have hA5:=HA4.out.below xf;have hBC:=AA (Li hA5 (AG yS xf.size) (some ⟨wb,0,none⟩) 1 1 [s] rfl hr5 (fun s' hs'=>by rw[AM.1 hs'];exact(HO4.out.below xf (AB _)).ok) (by rw[HL1.out];omega));have HG5:=AA (HG4.out.below xf);have HV5:=AA (HV4.out.below xf HV4.out.lt);have HW5:=AA hw5;have HWb:=AA hwb;clear hw5 hwb hW5 hr5 hA5;refine rgD (fun V=>AK V z 0 23=some s.cells) (x1) fun _=>?_
   iterate 4 (refine tkA ?_;go_frame)
   refine rd1 4 fun K hK=>?_
   rw[if_pos (by rfl)];refine EF (some 41) rfl 50 62 (.tmp 40) rfl s.cells rfl underlying50 (by rw[hsc];kernel_rfl) (by rw[hsc];decide) (by rw[hsc];decide) ?_;rw[<-HW5.out,show w4.drew.heap.size=wb from HWb.out.symm];refine hK.out _ _ (HX.out w5 (Br xf)) (fun _=>?_);clear hK K;try go_frame
   refine rd1 5 fun K hK=>?_
   go_simp;refine hBC.out.mono ?_;rintro en w6 ⟨va,L,rfl,hA6,hL6,hg6⟩;go_wp2_with fail
   refine hK.out _ _ (HX.out w6 ((Br xf).trans hg6)) (fun _=>?_);clear hK K;try go_frame
   refine dnD ?_;go_wp2_with fail
   obtain⟨P2,hP2⟩:=Wr (P1.more va L);rw[<-hP2]at hA6;have hGm:=Ax.setP (P:=P1) HG5.out (List.getElem?_set_self (AF.1 HI.out).1) hg6 hA6;have hG6:Ax Bs w6 g (G.setP i b P2):=by
    have e:(G.setP i b P1).setP i b P2=G.setP i b P2:=by simp[GmS.setP,List.set_set]
    rwa[e]at hGm
   have hGn:=(HA4.out.below xf).blk;have hV6:Blk w6 q 46 v.cells:=HV5.out.off hg6 (.blk hGn (by decide));have hbB6:Below Bs w w6:=(hBa.trans (xf.mono yS)).grown hg6 (AG yS xf.size) (Wt hbB);have hBD:Bs<=w6.heap.size:=AG yS (AG xf.size hg6.size);have hql6:q<w6.heap.size:=hV6.lt;obtain⟨sb,sc,hsv,hBb,⟨scs,hsB⟩,hsn⟩:=CT (i:=P.mem) (u:=sv0) hG6.srow (by rw[AV];show(G.sg[P.mem]?).map _=_;rw[HS.out];rfl);obtain⟨ns,hns⟩:=Wr G.sg.length;have zs:G.sv= .slice (some ⟨sb,0,none⟩) ns sc:=by rw[hns];exact hsv
   have z1:w6.drew.cell? ⟨g,12,none⟩=some (.slice (some ⟨sb,0,none⟩) ns sc):=by rw[<-zs];exact hG6.blk.cell 12
   have z2:w6.drew.cell? ⟨b,1,none⟩=some (.int .i64 (P.mem:Int)):=by
    have:=hA6.blk.cell 1;rw[hP2]at this;rw[<-HM1.out];exact this
   have z3:w6.drew.cell? ⟨sb,P.mem,none⟩=some sv0:=hBb;have z4:AK w6.drew q 0 22=some v.cells:=hV6.row 22 rfl;have hsn':(P.mem:Int)<(ns:Int):=by rw[hns];have:P.mem<G.sg.length:=hsn;omega
   have xn:w6.ownsRow Bs 46 22 sv0 sl.length (sl.flatMap vtc):=hG6.sgs P.mem (sv0,sl) HS.out;have HG6:=AA hG6;have yf:=AA xn;have HSv:=AA zs;have HL6:=AA hL6;have HP2:=AA hP2;have HsB:=AA hsB;obtain⟨nl,hnl⟩:=Ws sl.length;rw[hnl]at hsl;have HNl:=AA hnl;obtain⟨AS,cS,hAc⟩:=BD xn;rw[hnl]at hAc;have HX6:Hid (∀V,w6.grownBy V sv0.ownBlock->V.cell? ⟨g,12,none⟩=some (.slice (some ⟨sb,0,none⟩) ns sc)/\V.cell? ⟨b,1,none⟩=some (.int .i64 (P.mem:Int))/\AK V q 0 22=some v.cells):=fun V hV=>by
    have o1:∀(k:Nat) (t:TypeId),sv0.ownBlock=some k->t≠46->Off w6 k t:=fun k t hk ht=>by
     rcases xn.2 with⟨hv,_⟩|⟨g',cap,cur,hv,_,hh,_⟩
     ·rw[hv]at hk;simp[Value.ownBlock]at hk
     ·rw[hv]at hk;have:g'=k:=by simpa[Value.ownBlock]using hk
      subst this;exact .blk hh (fun e=>ht e.symm)
    have bk:∀{b' t:Nat} {cs:Array Value},t≠46->Blk w6 b' t cs->Blk V b' t cs:=fun ht hB=>hB.kept hV (fun e=>o1 _ _ e.symm ht _ hB)
    refine⟨by rw[<-zs];exact(bk (by decide) hG6.blk).cell 12,?_,(hV6.kept hV (fun e=>hBY.out e.symm)).row 22 rfl⟩;have:=(bk (by decide) hA6.blk).cell 1;rw[hP2]at this;rw[<-HM1.out];exact this
   have HX6b:Hid (∀V V',w6.grownBy V sv0.ownBlock->V.grownBy V' (some sb)->V'.cell? ⟨g,12,none⟩=some (.slice (some ⟨sb,0,none⟩) ns sc)/\V'.cell? ⟨b,1,none⟩=some (.int .i64 (P.mem:Int))/\AK V' q 0 22=some v.cells):=fun V V' hV hV'=>by
    have o1:∀(k:Nat) (t:TypeId),sv0.ownBlock=some k->t≠46->Off w6 k t:=fun k t hk ht=>by
     rcases xn.2 with⟨hv,_⟩|⟨g',cap,cur,hv,_,hh,_⟩
     ·rw[hv]at hk;simp[Value.ownBlock]at hk
     ·rw[hv]at hk;have:g'=k:=by simpa[Value.ownBlock]using hk
      subst this;exact .blk hh (fun e=>ht e.symm)
    have bk:∀{b' t:Nat} {cs:Array Value},t≠46->Blk w6 b' t cs->Blk V b' t cs:=fun ht hB=>hB.kept hV (fun e=>o1 _ _ e.symm ht _ hB)
    have hsV:=bk (by decide) hsB;refine⟨by rw[<-zs];exact((bk (by decide) hG6.blk).off hV' (.blk hsV (by decide))).cell 12,?_,((hV6.kept hV (fun e=>hBY.out e.symm)).off hV' (.blk hsV (by decide))).row 22 rfl⟩;have:=((bk (by decide) hA6.blk).off hV' (.blk hsV (by decide))).cell 1;rw[hP2]at this;rw[<-HM1.out];exact this
   have HCz:Hid (((w6.drew).alloc (.cells v.cells 46)).cell? ⟨sb,P.mem,none⟩=some sv0):=by
    unfold Hid;rw[(Blk.alloc (w:=w6.drew) hsB _).cell,<-hsB.cell];exact hBb
   have hCU:=AA hAc;clear hGm hG6 hV6 xn hsv zs hsB hsn hns hL6 hP2 hA6 hg6 hGn hBC HG5 HV5 HW5 HA4 HZ4 HV4 HO4 x1 hBb hnl;rw[hAc]at z3 HCz;clear hAc;have yZ:Wx w6 ((w6.drew).alloc (.cells v.cells 46)):=(AC w6.heap.size w6).drew.alloc (AB _) _;have HG7:=AA (HG6.out.below yZ);have xO:Hid (((w6.drew).alloc (.cells v.cells 46)).ownsRow Bs 46 22 sv0 nl (sl.flatMap vtc)):=by unfold Hid;rw[<-HNl.out];exact BP yf.out yZ (AB _)
   have HR7:Hid (Rd ((w6.drew).alloc (.cells v.cells 46)) ((w6.drew).alloc (.cells v.cells 46)).heap.size (some ⟨w6.heap.size,0,none⟩) (vtc v)):=by
    have hB:Blk ((w6.drew).alloc (.cells v.cells 46)) w6.heap.size 46 v.cells:=Blk.new w6.drew _ _;exact Rd.mk hB.lt (fun j u hu=>by rw[Nat.zero_add,hB.cell];simpa using hu)
   have hCV:Below Bs w ((w6.drew).alloc (.cells v.cells 46)):=hbB6.trans (yZ.mono hBD);have zt:Bs<=((w6.drew).alloc (.cells v.cells 46)).heap.size:=AG hBD yZ.size;refine rgD (fun V=>V.cell? ⟨g,12,none⟩=some (.slice (some ⟨sb,0,none⟩) ns sc)/\V.cell? ⟨b,1,none⟩=some (.int .i64 (P.mem:Int))/\AK V q 0 22=some v.cells) (HX6.out _ (GP sv0)) fun _=>?_
   iterate 17 (refine tkA ?_;go_frame)
   refine tkD 61 18 ?_;go_frame;refine rd2 17 19 (fun K hK=>?_) fun K hK=>?_
   ·rw[if_pos (by rfl)];refine B9 (.slice AS nl cS) (Ec (.tmp 59) rfl sb P.mem rfl _ (z3)) ?_;refine hK.out _ _ (HX6.out _ (GP sv0)) (fun _=>?_);clear hK K;try go_frame
    refine rd1 19 fun K hK=>?_
    rw[if_pos (by rfl)];refine EF (some 62) rfl 56 46 (.tmp 61) rfl v.cells rfl underlying56 (by kernel_rfl) (by simp) (by simp) ?_;refine hK.out _ _ (HX6.out _ (E8 sv0 _)) (fun _=>?_);clear hK K;try go_frame
    refine rd1 20 fun K hK=>?_
    rw[if_pos (by rfl)];refine II (some 63) rfl (.tmp 60) (.tmp 62) 56 rfl Bs 46 (.agg Bk.cells) 22 64 underlying56 CE rfl (by decide) sv0 nl (sl.flatMap vtc) hCU.out.symm xO.out ((w6.drew).alloc (.cells v.cells 46)).heap.size (some ⟨w6.heap.size,0,none⟩) 1 1 (vtc v) rfl rfl HR7.out (fun u hu=>BH v hu) (by omega) (by unfold maxLen;omega) zt ?_;intro v8 w8 xV hg8 zk;have hS8:=Lj HG7.out HS.out HSv.out (HNl.out) hg8 xV zk;obtain⟨A8,c8,rfl⟩:=BD xV;have HX8:Hid (w6.grownBy w8 sv0.ownBlock):=JF yZ hg8;have HS8:=AA hS8;clear hS8 xV hg8 zk;refine hK.out _ _ (HX6.out _ HX8.out) (fun _=>?_);clear hK K;try go_frame
    refine tkD 64 21 ?_;go_frame;refine rd1 22 fun K hK=>?_
    rw[if_pos (by rfl)];refine DP (.tmp 64) (.tmp 63) (by rfl) sb P.mem (.slice A8 (nl+1) c8) (by rfl) (by rfl) HS8.out.2.1 Hu rfl (by rfl) ?_;refine hK.out _ _ (HX6b.out _ _ HX8.out HS8.out.1.2) (fun _=>?_);clear hK K;try go_frame
    refine dnD ?_;have hBd:Below Bs w w8:=hCV.grown HS8.out.2.2.1 zt HS8.out.2.2.2;have zI:Bs<=sb:=by
     have h1:=HG7.out.srow;rw[show(G.setP i b P2).sv=_ from HSv.out]at h1;exact(h1.lt sb rfl).1
    go_wp2;go_ret;refine⟨hBd.setCell (p:=⟨sb,P.mem,none⟩) zI _,.inr ⟨hvl,rfl,va,.slice A8 (nl+1) c8,L,?_,?_⟩⟩
    ·rw[HL6.out,HL1.out,HSe.out,<-hCS.out,Ad];rfl
    ·have h9:=HS8.out.1.1;rw[HP2.out,HP1.out]at h9;exact h9
   ·rw[if_pos (by rfl)];refine EF (some 62) rfl 56 46 (.tmp 61) rfl v.cells rfl underlying56 (by kernel_rfl) (by simp) (by simp) ?_;refine hK.out _ _ (HX6.out _ (E8 sv0 _)) (fun _=>?_);clear hK K;try go_frame
    refine rd1 17 fun K hK=>?_
    rw[if_pos (by rfl)];refine B9 (.slice AS nl cS) (Ec (.tmp 59) rfl sb P.mem rfl _ ((HCz.out))) ?_;refine hK.out _ _ (HX6.out _ (E8 sv0 _)) (fun _=>?_);clear hK K;try go_frame
    refine rd1 20 fun K hK=>?_
    rw[if_pos (by rfl)];refine II (some 63) rfl (.tmp 60) (.tmp 62) 56 rfl Bs 46 (.agg Bk.cells) 22 64 underlying56 CE rfl (by decide) sv0 nl (sl.flatMap vtc) hCU.out.symm xO.out ((w6.drew).alloc (.cells v.cells 46)).heap.size (some ⟨w6.heap.size,0,none⟩) 1 1 (vtc v) rfl rfl HR7.out (fun u hu=>BH v hu) (by omega) (by unfold maxLen;omega) zt ?_;intro v8 w8 xV hg8 zk;have hS8:=Lj HG7.out HS.out HSv.out (HNl.out) hg8 xV zk;obtain⟨A8,c8,rfl⟩:=BD xV;have HX8:Hid (w6.grownBy w8 sv0.ownBlock):=JF yZ hg8;have HS8:=AA hS8;clear hS8 xV hg8 zk;refine hK.out _ _ (HX6.out _ HX8.out) (fun _=>?_);clear hK K;try go_frame
    refine tkD 64 21 ?_;go_frame;refine rd1 22 fun K hK=>?_
    rw[if_pos (by rfl)];refine DP (.tmp 64) (.tmp 63) (by rfl) sb P.mem (.slice A8 (nl+1) c8) (by rfl) (by rfl) HS8.out.2.1 Hu rfl (by rfl) ?_;refine hK.out _ _ (HX6b.out _ _ HX8.out HS8.out.1.2) (fun _=>?_);clear hK K;try go_frame
    refine dnD ?_;have hBd:Below Bs w w8:=hCV.grown HS8.out.2.2.1 zt HS8.out.2.2.2;have zI:Bs<=sb:=by
     have h1:=HG7.out.srow;rw[show(G.setP i b P2).sv=_ from HSv.out]at h1;exact(h1.lt sb rfl).1
    go_wp2;go_ret;refine⟨hBd.setCell (p:=⟨sb,P.mem,none⟩) zI _,.inr ⟨hvl,rfl,va,.slice A8 (nl+1) c8,L,?_,?_⟩⟩
    ·rw[HL6.out,HL1.out,HSe.out,<-hCS.out,Ad];rfl
    ·have h9:=HS8.out.1.1;rw[HP2.out,HP1.out]at h9;exact h9
end
end Go.Proofs.YtadllffeoibelaaGreat
