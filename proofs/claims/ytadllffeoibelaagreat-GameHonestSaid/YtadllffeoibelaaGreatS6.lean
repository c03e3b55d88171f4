/-
  What these parts of the proof come to, functions walked and plain laws: Row, Tk, SVer, Less, Conf. No condition.
-/
import Derived.Test.YtadllffeoibelaaGreatS5
import Derived.Deep.RegionHeld3
namespace Go.Proofs.YtadllffeoibelaaGreat
set_option maxRecDepth 100000
set_option maxHeartbeats 32000000
section
open Go.RowKit
def GC(w:World)(b:Nat):Nat→Nat→Option (List Value)
 |_,0=>some []
 |o,n+1=>match w.cell? ⟨b,o,none⟩,GC w b (o+1) n with
  |some u,some r=>some (u::r)
  |_,_=>none
def AK(w:World)(b o n:Nat):Option (Array Value):=(GC w b o n).map List.toArray
theorem OE{w:World}{b:Nat}:∀(l:List Value) (o:Nat),w.rangeAt b o l→GC w b o l.length=some l
 |[],_,_=>rfl
 |u::r,o,h=>by
  have h0:w.cell? ⟨b,o,none⟩=some u:=by simpa using h 0 u rfl
  have h1:=OE r (o+1) (fun j v hv=>by
   have:=h (j+1) v (by simpa using hv);rwa[show o+(j+1)=o+1+j from by omega]at this)
  rw[Af,GC,h0,h1]
theorem KH{w:World}{b:Nat}:∀(n o:Nat) (l:List Value),GC w b o n=some l→l.length=n∧w.rangeAt b o l
 |0,o,l,h=>by
  injection h with h;subst h
  exact⟨rfl,fun j v hv=>by simp at hv⟩
 |n+1,o,l,h=>by
  rw[GC]at h;split at h
  ·rename_i u r hu hr
   injection h with h;subst h
   obtain⟨h1,h2⟩:=KH n (o+1) r hr;refine⟨by simp[h1],fun j v hv=>?_⟩;cases j with
   |zero=>simp at hv;subst hv;simpa using hu
   |succ j=>
    have:=h2 j v (by simpa using hv);rwa[show o+1+j=o+(j+1)from by omega]at this
  ·cases h
theorem Bo{w:World}{b o n:Nat}{cs:Array Value}(h:w.rangeAt b o cs.toList)(hn:cs.size=n):AK w b o n=some cs:=by
 subst hn;unfold AK;rw[show cs.size=cs.toList.length from by simp,OE _ _ h];simp
theorem Cl{w:World}{b o n:Nat}{cs:Array Value}(h:AK w b o n=some cs):cs.size=n∧w.rangeAt b o cs.toList:=by
 unfold AK at h;cases hr:GC w b o n with
 |none=>rw[hr]at h;cases h
 |some l=>
  rw[hr]at h;injection h with h;subst h
  obtain⟨h1,h2⟩:=KH n o l hr;exact⟨by simpa using h1,by simpa using h2⟩
theorem AW(w:World)(b o n:Nat):AK w.drew b o n=AK w b o n:=by
 have:∀n o,GC w.drew b o n=GC w b o n:=by
  intro n
  induction n with
  |zero=>intro o;rfl
  |succ n ih=>intro o;rw[GC,GC,ih];rfl
 unfold AK;rw[this]
theorem AQ(w:World)(k b o n:Nat):AK (w.drewN k) b o n=AK w b o n:=by
 have:∀n o,GC (w.drewN k) b o n=GC w b o n:=by
  intro n
  induction n with
  |zero=>intro o;rfl
  |succ n ih=>intro o;rw[GC,GC,ih];rfl
 unfold AK;rw[this]
theorem Blk.row{w:World}{g t:Nat}{cs:Array Value}(h:Blk w g t cs)(n:Nat)(hn:cs.size=n):AK w g 0 n=some cs:=
 Bo (fun j u hu=>by rw[Nat.zero_add,h.cell];simpa using hu) hn
theorem Blk.part{w:World}{g t:Nat}{cs:Array Value}(h:Blk w g t cs)(o:Nat)(ds:Array Value)(hd:∀j u,ds[j]? =some u→cs[o+j]? =some u):AK w g o ds.size=some ds:=
 Bo (fun j u hu=>by rw[h.cell];exact hd j u (by simpa using hu)) rfl
theorem Ay{w w':World}{B' b o n:Nat}{cs:Array Value}(h:AK w b o n=some cs)(hb:Below B' w w')(hg:b<B'):AK w' b o n=some cs:=by
 obtain⟨h1,h2⟩:=Cl h;exact Bo (fun j u hu=>(hb.cell (p:=⟨b,o+j,none⟩) hg).trans (h2 j u hu)) h1
noncomputable def CN(t:TypeId)(p:Value):Sem Value:=Instr.loadAt t p
noncomputable def SR(t:TypeId)(b o:Nat)(w:World):Result Value:=(Instr.loadAt t (.pointer (some ⟨b,o,none⟩))).run Tryz.prog w
noncomputable def Cw(t:TypeId)(b o:Nat)(w:World):Option (Array Value)→Result Value
 |some cs=>.ok (.agg cs) w
 |none=>SR t b o w
theorem AN(t:TypeId)(b o:Nat)(w:World)(cs:Array Value):Cw t b o w (some cs)= .ok (.agg cs) w:=rfl
theorem CW(t n b o:Nat)(w:World)(d:TypeDesc)(hu:Tryz.prog.underlying t=some d)(hd:d.isRow=true)(hi:(Tryz.prog.info? t).map (·.size)=some n):(CN t (.pointer (some ⟨b,o,none⟩))).run Tryz.prog w=Cw t b o w (AK w b o n):=by
 cases hr:AK w b o n with
 |none=>rfl
 |some cs=>
  obtain⟨h1,h2⟩:=Cl hr;have:=run_loadAt_mid (P:=Tryz.prog) w b o t cs.toList d h2 hu hd (by simpa[h1]using hi);simpa[CN,Cw]using this
theorem An(p:Value):Instr.loadAt 24 p=CN 24 p:=rfl
theorem Au(p:Value):Instr.loadAt 46 p=CN 46 p:=rfl
theorem Av(p:Value):Instr.loadAt 62 p=CN 62 p:=rfl
theorem Aw(p:Value):Instr.loadAt 125 p=CN 125 p:=rfl
theorem BD(b o:Nat)(w:World):(CN 24 (.pointer (some ⟨b,o,none⟩))).run Tryz.prog w=Cw 24 b o w (AK w b o 8):=CW _ 8 b o w _ Tryz.underlying24 rfl Ap
theorem BH(b o:Nat)(w:World):(CN 46 (.pointer (some ⟨b,o,none⟩))).run Tryz.prog w=Cw 46 b o w (AK w b o 22):=CW _ 22 b o w _ Tryz.underlying46 rfl Hc
theorem BI(b o:Nat)(w:World):(CN 62 (.pointer (some ⟨b,o,none⟩))).run Tryz.prog w=Cw 62 b o w (AK w b o 23):=CW _ 23 b o w _ Tryz.underlying62 rfl (by kernel_rfl)
theorem BJ(b o:Nat)(w:World):(CN 125 (.pointer (some ⟨b,o,none⟩))).run Tryz.prog w=Cw 125 b o w (AK w b o 46):=CW _ 46 b o w _ Tryz.underlying125 rfl (by kernel_rfl)
theorem Sg.row_vote{w:World}{g t:Nat}(s:Sg)(h:Blk w g t s.cells):AK w g 0 22=some s.vote.cells:=
 Blk.part h 0 s.vote.cells (fun j u hu=>by rw[Nat.zero_add];exact s.cell_vote j u hu)
theorem BQ{P:Program}{op:Oper}{a:Act}{w:World}{K:Act→World→Prop}{Q:Exit→Act→World→Prop}(ty:TypeId)(x y:Operand)(ho:op.op= .store ty x y)(g:Nat)(cs:Array Value)(hx:a.eval x= .pointer (some ⟨g,0,none⟩))(hy:a.eval y= .agg cs)(t:TypeId)(old:Array Value)(hB:Blk w g t old)(hsz:old.size=cs.size)(hi:(P.info? ty).map (·.size)=some cs.size)(h1:∀u∈cs.toList,u.oneCell'=true)(hd:op.dst=none)(h:∀w',Blk w' g t cs→w.grownBy w' (some g)→w'.heap.size=w.heap.size→K a w'):op.wp P a w K Q:=by
 have hth:w.there g 0 cs.size:=fun j hj=>⟨by
  rw[Nat.zero_add,hB.cell];rw[Array.getElem?_eq_getElem (by omega)];rfl,hB.frozen _⟩
 refine wp_store_mid ty x y ho g 0 cs hx hy hth hi (Array.all_eq_true_iff_forall_mem.2 fun v hv=>h1 v (by simpa using hv)) ?_;obtain⟨⟨cur',h2,h3⟩,h4,h5⟩:=Cc g t cs.toList 0 w old hB;have e:cur'=cs:=by
  apply Array.ext (by omega);intro i hi1 hi2;have:=World.rangeAt_setCells_same w g 0 cs.toList (by simpa using hth) i cs[i] (by simp[hi2]);rw[Nat.zero_add,h2.cell,Array.getElem?_eq_getElem hi1]at this;exact Option.some.inj this
 subst e;rw[hd];exact h _ h2 h4 h5
theorem Kx{P:Program}{ops:Array Oper}{Q:Exit→Act→World→Prop}{md:Region.Mode}{S:World→Prop}{i:Nat}{oi:Oper}{fuel:Nat}{listed:Array Bool}{a:Act}{w:World}(d:Option Tmp)(hi:ops[i]? =some oi)(hd:oi.dst=d)(hs:Region.noSelect ops=true)(hf:Region.free md ops listed i=true)(hr:(Region.ready md ops listed).contains i=true)(hQ:∀c a w,Q (.panic c) (a.put oi.dst undef) w→Q (.panic c) a w)(hw:Region.wanted oi (yielded ops a.tmps)=false)(hS:S w)(h:wpAnyH P md ops Q S fuel (listed.setIfInBounds i true) (a.put d undef) w):wpAnyH P md ops Q S (fuel+1) listed a w:=by
 subst hd;exact wpAnyH_take hi hs hf hr hQ (Or.inr ⟨hw,rfl⟩) hS h
theorem Az{P:Program}{ops:Array Oper}{Q:Exit→Act→World→Prop}{md:Region.Mode}{S:World→Prop}{i:Nat}{oi:Oper}{v:Value}{fuel:Nat}{listed:Array Bool}{a:Act}{w:World}(d:Option Tmp)(hi:ops[i]? =some oi)(hd:oi.dst=d)(hs:Region.noSelect ops=true)(hf:Region.free md ops listed i=true)(hr:(Region.ready md ops listed).contains i=true)(hQ:∀c a w,Q (.panic c) (a.put oi.dst v) w→Q (.panic c) a w)(hw:Region.wanted oi (yielded ops a.tmps)=true)(hy:∀w,S w→(execOp a.eval oi).run P w= .ok (.value v) w)(hS:S w)(h:wpAnyH P md ops Q S fuel (listed.setIfInBounds i true) (a.put d v) w):wpAnyH P md ops Q S (fuel+1) listed a w:=by
 subst hd;exact wpAnyH_take hi hs hf hr hQ (Or.inl ⟨hw,hy⟩) hS h
section
variable {P:Program}{ops:Array Oper}{Q:Exit→Act→World→Prop}{md:Region.Mode}{S:World→Prop}{oi o2:Oper}{v:Value}{fuel:Nat}{listed:Array Bool}{a:Act}{w:World}
theorem tkD(d i:Nat)(h:wpAnyH P md ops (NoPanic Q) S fuel (listed.setIfInBounds i true) (a.put (some d) v) w)(hi:ops[i]? =some oi:=by rfl)(hd:oi.dst=some d:=by rfl)(hs:Region.noSelect ops=true:=by kernel_rfl)(hf:Region.free md ops listed i=true:=by kernel_rfl)(hr:(Region.ready md ops listed).contains i=true:=by kernel_rfl)
  (hw:Region.wanted oi (yielded ops a.tmps)=true:=by rfl) (hy:∀w,S w→(execOp a.eval oi).run P w= .ok (.value v) w:=by(intros;go_simp;(try (with_reducible rfl)))) (hS:S w:=by assumption):wpAnyH P md ops (NoPanic Q) S (fuel+1) listed a w:=
 Az (some d) hi hd hs hf hr (fun _ _ _ h=>h.elim) hw hy hS h
theorem skD(d i:Nat)(h:wpAnyH P md ops (NoPanic Q) S fuel (listed.setIfInBounds i true) (a.put (some d) undef) w)(hi:ops[i]? =some oi:=by rfl)(hd:oi.dst=some d:=by rfl)(hs:Region.noSelect ops=true:=by kernel_rfl)(hf:Region.free md ops listed i=true:=by kernel_rfl)(hr:(Region.ready md ops listed).contains i=true:=by kernel_rfl)
  (hw:Region.wanted oi (yielded ops a.tmps)=false:=by rfl) (hS:S w:=by assumption):wpAnyH P md ops (NoPanic Q) S (fuel+1) listed a w:=
 Kx (some d) hi hd hs hf hr (fun _ _ _ h=>h.elim) hw hS h
theorem rgD{id:Nat}(S:World→Prop)(hS:S w.drew)(h:S w.drew→wpAnyH P .any ops (NoPanic Q) S ops.size (Array.replicate ops.size false) a w.drew)(hm:P.follows .mixedOrders=true:=by kernel_rfl):(Code.region id ops true).wp P Q a w:=
 wp_region_noPanic (wp_region_held_drew hm hS h)
theorem dnD(h:Q .normal a w)(hr:Region.ready md ops listed=[]:=by kernel_rfl):wpAnyH P md ops (NoPanic Q) S fuel listed a w:=wpAnyH_done hr (NoPanic.normal h) _
theorem rd1(i:Nat)(h:∀K':Act→World→Prop,Shut (∀a w,S w→(S w→wpAnyH P md ops (NoPanic Q) S fuel (listed.setIfInBounds i true) a w)→K' a w)→if Region.wanted oi (yielded ops a.tmps)=true then Oper.wp P oi a w K' (NoPanic Q)else K' (a.put oi.dst undef) w)(hr:Region.ready md ops listed=[i]:=by kernel_rfl)(ho:ops[i]? =some oi:=by rfl):wpAnyH P md ops (NoPanic Q) S (fuel+1) listed a w:=
 wpAnyH_ready hr (by simp) (AllReadyH.cons ho h AllReadyH.nil)
theorem rd2(i j:Nat)(h:∀K':Act→World→Prop,Shut (∀a w,S w→(S w→wpAnyH P md ops (NoPanic Q) S fuel (listed.setIfInBounds i true) a w)→K' a w)→if Region.wanted oi (yielded ops a.tmps)=true then Oper.wp P oi a w K' (NoPanic Q)else K' (a.put oi.dst undef) w)(h2:∀K':Act→World→Prop,Shut (∀a w,S w→(S w→wpAnyH P md ops (NoPanic Q) S fuel (listed.setIfInBounds j true) a w)→K' a w)→if Region.wanted o2 (yielded ops a.tmps)=true then Oper.wp P o2 a w K' (NoPanic Q)else K' (a.put o2.dst undef) w)(hr:Region.ready md ops listed=[i,j]:=by kernel_rfl)(ho:ops[i]? =some oi:=by rfl)(ho2:ops[j]? =some o2:=by rfl):wpAnyH P md ops (NoPanic Q) S (fuel+1) listed a w:=
 wpAnyH_ready hr (by simp) (AllReadyH.cons ho h (AllReadyH.cons ho2 h2 AllReadyH.nil))
end
end
section
open Go.RowKit
attribute [local go_sem ↓] Go.wp_at_zero Go.wp_at_succ An Au Av Aw
attribute [local go_sem] BD BH BI BJ AN AW AQ
def Sb(s:Sg):Prop:=s.sig.length≤s.cap∧s.cap≤maxLen
end
section
open Go.RowKit
theorem Q1(a b:Vt)(w:World):Calls Tryz.prog 48 #[a.val,b.val] w (Al w (decide (KC a b))):=by
 obtain⟨k1,hk1⟩:∃k,k=decide (a.kind=b.kind):=⟨_,rfl⟩;obtain⟨k2,hk2⟩:∃k,k=decide (a.parent=b.parent):=⟨_,rfl⟩;obtain⟨k3,hk3⟩:∃k,k=decide (a.slot=b.slot):=⟨_,rfl⟩;obtain⟨k4,hk4⟩:∃k,k=decide (a.round=b.round):=⟨_,rfl⟩;obtain⟨k5,hk5⟩:∃k,k=decide (a.signer=b.signer):=⟨_,rfl⟩;have hr:decide (KC a b)=(k1&&(k2&&(k3&&(k4&&k5)))):=by
  rw[hk1,hk2,hk3,hk4,hk5,Bool.eq_iff_iff];simp only[decide_eq_true_eq,Bool.and_eq_true];exact Iff.rfl
 have e1:(a.kind==b.kind)=k1:=by rw[hk1];rfl
 have e2:∀W,(Op.equalIn 10000 24 a.parent.val b.parent.val).run Tryz.prog W= .ok k2 W:=fun W=>by rw[hk2];exact Dz a.parent b.parent W 9998
 have e3:(a.slot==b.slot)=k3:=by rw[hk3];rfl
 have e4:(a.round==b.round)=k4:=by rw[hk4];rfl
 have e5:(a.signer==b.signer)=k5:=by rw[hk5];rfl
 have Hr:=AA hr;clear hk1 hk2 hk3 hk4 hk5 hr;cases k1
 ·go_enter Tryz.func48,Tryz.ntmps48;go_wp2;go_ret;exact⟨by rw[Hr.out];rfl,((AC _ _).alloc (AB _) _).alloc (by simp) _⟩
 ·skip
  cases k2
  ·go_enter Tryz.func48,Tryz.ntmps48;go_wp2;go_ret;exact⟨by rw[Hr.out];rfl,((AC _ _).alloc (AB _) _).alloc (by simp) _⟩
  ·skip
   cases k3
   ·go_enter Tryz.func48,Tryz.ntmps48;go_wp2;go_ret;exact⟨by rw[Hr.out];rfl,((AC _ _).alloc (AB _) _).alloc (by simp) _⟩
   ·skip
    cases k4
    ·go_enter Tryz.func48,Tryz.ntmps48;go_wp2;go_ret;exact⟨by rw[Hr.out];rfl,((AC _ _).alloc (AB _) _).alloc (by simp) _⟩
    ·skip
     cases k5
     ·go_enter Tryz.func48,Tryz.ntmps48;go_wp2;go_ret;exact⟨by rw[Hr.out];rfl,((AC _ _).alloc (AB _) _).alloc (by simp) _⟩
     ·go_enter Tryz.func48,Tryz.ntmps48;go_wp2;go_ret;exact⟨by rw[Hr.out];rfl,((AC _ _).alloc (AB _) _).alloc (by simp) _⟩
attribute [local go_sem ↓] Go.wp_at_zero Go.wp_at_succ An Au Av Aw
attribute [local go_sem] BD BH BI BJ AN AW AQ
theorem Q2(a b:Nm)(w:World)(hne:¬a=b):Calls Tryz.prog 158 #[a.val,b.val] w (Al w (DJ a b)):=by
 have e0:∀W,(Op.equalIn 10000 24 a.val b.val).run Tryz.prog W= .ok false W:=fun W=>by
  have:=Dz a b W 9998;rwa[decide_eq_false hne]at this
 have hA:Blk ((w.alloc (Obj.cells a.cells 24)).alloc (Obj.cells b.cells 24)) w.heap.size 24 a.cells:=(Blk.new w _ _).alloc _;have hB:Blk ((w.alloc (Obj.cells a.cells 24)).alloc (Obj.cells b.cells 24)) (w.heap.size+1) 24 b.cells:=by
  have:=Blk.new (w.alloc (Obj.cells a.cells 24)) 24 b.cells;simpa using this
 have hbW:Below w.heap.size w ((w.alloc (Obj.cells a.cells 24)).alloc (Obj.cells b.cells 24)):=((AC _ _).alloc (AB _) _).alloc (by simp) _;have x0:=hA.row 8 rfl;have y0:=hB.row 8 rfl;go_enter Tryz.func158,Tryz.ntmps158;go_wp2;generalize ((w.alloc (Obj.cells a.cells 24)).alloc (Obj.cells b.cells 24))=W at*;obtain⟨na,hna⟩:∃n,n=Dd a.bytes:=⟨_,rfl⟩;obtain⟨nb,hnb⟩:∃n,n=Dd b.bytes:=⟨_,rfl⟩;have HA:Hid (∀W,Calls Tryz.prog 182 #[a.val] W (Fc W na)):=fun W=>by rw[hna];exact F0 a W
 have HB:Hid (∀W,Calls Tryz.prog 182 #[b.val] W (Fc W nb)):=fun W=>by rw[hnb];exact F0 b W
 have hr:DJ a b=decide (na<nb):=by rw[hna,hnb];rfl
 have Hr:=AA hr;clear hr hna hnb
 go_region_held3 (fun w'=>AK w' w.heap.size 0 8=some a.cells∧AK w' (w.heap.size+1) 0 8=some b.cells) (first|exact⟨x2,y2⟩|exact⟨x0,y0⟩)
  ((first
   |(go_at_call 182;(first|(with_reducible refine(HA.out _).mono ?_)|(with_reducible refine(HB.out _).mono ?_));rintro en w2 ⟨rfl,hb2⟩;have hA2:Blk w2 w.heap.size 24 a.cells:=(by first|exact hA2.below hb2 hA2.lt|exact hA.drew.below hb2 hA.lt);have hB2:Blk w2 (w.heap.size+1) 24 b.cells:=(by first|exact hB2.below hb2 hB2.lt|exact hB.drew.below hb2 hB.lt);have hbw2:Below w.heap.size w w2:=(by first|exact hbw2.trans (hb2.mono hbw2.size)|exact hbW.trans (((AC _ _).drew.trans hb2).mono hbW.size));have x2:=hA2.row 8 rfl;have y2:=hB2.row 8 rfl)))
 all_goals
  go_wp2;go_ret;exact⟨by rw[Hr.out];exact EX (by simp),hbw2⟩
theorem Ee(a b:Nm)(w:World):Calls Tryz.prog 158 #[a.val,b.val] w (Al w (DJ a b)):=by
 by_cases hne:a=b
 ·subst hne;have e0:∀W,(Op.equalIn 10000 24 a.val a.val).run Tryz.prog W= .ok true W:=fun W=>by
   have:=Dz a a W 9998;rwa[decide_eq_true rfl]at this
  have hr:DJ a a=false:=by simp[DJ]
  have Hr:=AA hr;clear hr;have hA:Blk ((w.alloc (Obj.cells a.cells 24)).alloc (Obj.cells a.cells 24)) w.heap.size 24 a.cells:=(Blk.new w _ _).alloc _;have hB:Blk ((w.alloc (Obj.cells a.cells 24)).alloc (Obj.cells a.cells 24)) (w.heap.size+1) 24 a.cells:=by
   have:=Blk.new (w.alloc (Obj.cells a.cells 24)) 24 a.cells;simpa using this
  have x0:=hA.row 8 rfl;have y0:=hB.row 8 rfl;clear hA hB;go_enter Tryz.func158,Tryz.ntmps158;go_wp2;go_ret;exact⟨by rw[Hr.out];rfl,((AC _ _).alloc (AB _) _).alloc (by simp) _⟩
 ·exact Q2 a b w hne
end
section
open Go.RowKit
attribute [local go_sem ↓] Go.wp_at_zero Go.wp_at_succ An Au Av Aw
attribute [local go_sem] BD BH BI BJ AN AW AQ
theorem Q3(a b:Vt)(w:World)(ha:a.ok)(hb:b.ok):Calls Tryz.prog 26 #[a.val,b.val] w (Al w (decide (IE a b))):=by
 obtain⟨k1,hk1⟩:∃k,k=decide (a=b):=⟨_,rfl⟩;obtain⟨k2,hk2⟩:∃k,k=decide (KC a b):=⟨_,rfl⟩;obtain⟨k3,hk3⟩:∃k,k=decide (Ae a):=⟨_,rfl⟩;obtain⟨k4,hk4⟩:∃k,k=decide (Ae b):=⟨_,rfl⟩;have hr:decide (IE a b)=(!k1&&(k2&&(k3&&k4))):=by
  rw[hk1,hk2,hk3,hk4,Bool.eq_iff_iff];simp only[decide_eq_true_eq,Bool.and_eq_true,Bool.not_eq_true',decide_eq_false_iff_not];exact Iff.rfl
 have e1:∀W,(Op.equalIn 10000 46 (.agg a.cells) (.agg b.cells)).run Tryz.prog W= .ok k1 W:=fun W=>by rw[hk1];exact OS a b W
 have HS:Hid (∀W,Calls Tryz.prog 48 #[a.val,b.val] W (Al W k2)):=fun W=>by rw[hk2];exact Q1 a b W
 have HA:Hid (∀W,Calls Tryz.prog 49 #[a.val] W (Al W k3)):=fun W=>by rw[hk3];exact Cm a W ha
 have HB:Hid (∀W,Calls Tryz.prog 49 #[b.val] W (Al W k4)):=fun W=>by rw[hk4];exact Cm b W hb
 have Hr:=AA hr;clear hk1 hk2 hk3 hk4 hr ha hb;have hA:Blk ((w.alloc (Obj.cells a.cells 46)).alloc (Obj.cells b.cells 46)) w.heap.size 46 a.cells:=(Blk.new w _ _).alloc _;have hB:Blk ((w.alloc (Obj.cells a.cells 46)).alloc (Obj.cells b.cells 46)) (w.heap.size+1) 46 b.cells:=by
  have:=Blk.new (w.alloc (Obj.cells a.cells 46)) 46 b.cells;simpa using this
 have hbW:Below w.heap.size w ((w.alloc (Obj.cells a.cells 46)).alloc (Obj.cells b.cells 46)):=((AC _ _).alloc (AB _) _).alloc (by simp) _;have x0:=hA.row 22 rfl;have y0:=hB.row 22 rfl;by_cases g0:k1=true
 ·subst g0;go_enter Tryz.func26,Tryz.ntmps26;go_wp2_with ((first|(go_at_call 48;refine(HS.out _).mono ?_)|(go_at_call 49;(first|(with_reducible refine(HA.out _).mono ?_)|(with_reducible refine(HB.out _).mono ?_))));rintro en w2 ⟨rfl,hb2⟩;have hA2:Blk w2 w.heap.size 46 a.cells:=(by first|exact hA2.below hb2 hA2.lt|exact hA.below hb2 hA.lt);have hB2:Blk w2 (w.heap.size+1) 46 b.cells:=(by first|exact hB2.below hb2 hB2.lt|exact hB.below hb2 hB.lt);have hbw2:Below w.heap.size w w2:=(by first|exact hbw2.trans (hb2.mono hbw2.size)|exact hbW.trans (hb2.mono hbW.size));have x2:=hA2.row 22 rfl;have y2:=hB2.row 22 rfl)
  go_ret;exact⟨by rw[Hr.out];simp,by first|exact hbw2|exact hbW⟩
 ·obtain rfl:k1=false:=by simpa using g0
  clear g0;by_cases g1:k2=false
  ·subst g1;go_enter Tryz.func26,Tryz.ntmps26;go_wp2_with ((first|(go_at_call 48;refine(HS.out _).mono ?_)|(go_at_call 49;(first|(with_reducible refine(HA.out _).mono ?_)|(with_reducible refine(HB.out _).mono ?_))));rintro en w2 ⟨rfl,hb2⟩;have hA2:Blk w2 w.heap.size 46 a.cells:=(by first|exact hA2.below hb2 hA2.lt|exact hA.below hb2 hA.lt);have hB2:Blk w2 (w.heap.size+1) 46 b.cells:=(by first|exact hB2.below hb2 hB2.lt|exact hB.below hb2 hB.lt);have hbw2:Below w.heap.size w w2:=(by first|exact hbw2.trans (hb2.mono hbw2.size)|exact hbW.trans (hb2.mono hbW.size));have x2:=hA2.row 22 rfl;have y2:=hB2.row 22 rfl)
   go_ret;exact⟨by rw[Hr.out];simp,by first|exact hbw2|exact hbW⟩
  ·obtain rfl:k2=true:=by simpa using g1
   clear g1;by_cases g2:k3=false
   ·subst g2;go_enter Tryz.func26,Tryz.ntmps26;go_wp2_with ((first|(go_at_call 48;refine(HS.out _).mono ?_)|(go_at_call 49;(first|(with_reducible refine(HA.out _).mono ?_)|(with_reducible refine(HB.out _).mono ?_))));rintro en w2 ⟨rfl,hb2⟩;have hA2:Blk w2 w.heap.size 46 a.cells:=(by first|exact hA2.below hb2 hA2.lt|exact hA.below hb2 hA.lt);have hB2:Blk w2 (w.heap.size+1) 46 b.cells:=(by first|exact hB2.below hb2 hB2.lt|exact hB.below hb2 hB.lt);have hbw2:Below w.heap.size w w2:=(by first|exact hbw2.trans (hb2.mono hbw2.size)|exact hbW.trans (hb2.mono hbW.size));have x2:=hA2.row 22 rfl;have y2:=hB2.row 22 rfl)
    go_ret;exact⟨by rw[Hr.out];simp,by first|exact hbw2|exact hbW⟩
   ·obtain rfl:k3=true:=by simpa using g2
    clear g2;by_cases g3:k4=false
    ·subst g3;go_enter Tryz.func26,Tryz.ntmps26;go_wp2_with ((first|(go_at_call 48;refine(HS.out _).mono ?_)|(go_at_call 49;(first|(with_reducible refine(HA.out _).mono ?_)|(with_reducible refine(HB.out _).mono ?_))));rintro en w2 ⟨rfl,hb2⟩;have hA2:Blk w2 w.heap.size 46 a.cells:=(by first|exact hA2.below hb2 hA2.lt|exact hA.below hb2 hA.lt);have hB2:Blk w2 (w.heap.size+1) 46 b.cells:=(by first|exact hB2.below hb2 hB2.lt|exact hB.below hb2 hB.lt);have hbw2:Below w.heap.size w w2:=(by first|exact hbw2.trans (hb2.mono hbw2.size)|exact hbW.trans (hb2.mono hbW.size));have x2:=hA2.row 22 rfl;have y2:=hB2.row 22 rfl)
     go_ret;exact⟨by rw[Hr.out];simp,by first|exact hbw2|exact hbW⟩
    ·obtain rfl:k4=true:=by simpa using g3
     clear g3;go_enter Tryz.func26,Tryz.ntmps26;go_wp2_with ((first|(go_at_call 48;refine(HS.out _).mono ?_)|(go_at_call 49;(first|(with_reducible refine(HA.out _).mono ?_)|(with_reducible refine(HB.out _).mono ?_))));rintro en w2 ⟨rfl,hb2⟩;have hA2:Blk w2 w.heap.size 46 a.cells:=(by first|exact hA2.below hb2 hA2.lt|exact hA.below hb2 hA.lt);have hB2:Blk w2 (w.heap.size+1) 46 b.cells:=(by first|exact hB2.below hb2 hB2.lt|exact hB.below hb2 hB.lt);have hbw2:Below w.heap.size w w2:=(by first|exact hbw2.trans (hb2.mono hbw2.size)|exact hbW.trans (hb2.mono hbW.size));have x2:=hA2.row 22 rfl;have y2:=hB2.row 22 rfl)
     go_ret;exact⟨by rw[Hr.out];simp,by first|exact hbw2|exact hbW⟩
end
end Go.Proofs.YtadllffeoibelaaGreat
