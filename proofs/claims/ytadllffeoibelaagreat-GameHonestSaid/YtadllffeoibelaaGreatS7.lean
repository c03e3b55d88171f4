/-
  What these parts of the proof come to, functions walked and plain laws: VLess, StP, StM. No condition.
-/
import Derived.Test.YtadllffeoibelaaGreatS6
import Derived.Test.YtadllffeoibelaaGreatS1
import Derived.Lib.ReflectliteSwap
namespace Go.Proofs.YtadllffeoibelaaGreat
set_option maxRecDepth 100000
set_option maxHeartbeats 32000000
set_option linter.all false
section
open Go.RowKit
attribute [local go_sem ↓] Go.wp_at_zero Go.wp_at_succ An Au Av Aw
attribute [local go_sem] BD BH BI BJ AN AW AQ
def Dg(v:Vt):List Int:=[v.slot,v.round,v.kind,v.signer,v.choice]
theorem KI(v:Vt)(k:Nat)(h:k<5):(#[I v.slot,I v.round,I v.kind,I v.signer,I v.choice]:Array Value)[k]? =some (I ((Dg v).getD k 0)):=by
 rcases(by omega:k=0∨k=1∨k=2∨k=3∨k=4)with rfl|rfl|rfl|rfl|rfl <;> rfl
theorem Q4(a b:Vt)(k:Nat)(hk:k<5)(hp:a.parent=b.parent)(h:∀j,j<k→(Dg a).getD j 0=(Dg b).getD j 0)(hne:¬(Dg a).getD k 0=(Dg b).getD k 0):Bg a b=decide ((Dg a).getD k 0<(Dg b).getD k 0):=by
 have h0:0<k→a.slot=b.slot:=fun hh=>h 0 hh
 have h1:1<k→a.round=b.round:=fun hh=>h 1 hh
 have h2:2<k→a.kind=b.kind:=fun hh=>h 2 hh
 have h3:3<k→a.signer=b.signer:=fun hh=>h 3 hh
 clear h;unfold Bg;rw[if_pos hp];rcases(by omega:k=0∨k=1∨k=2∨k=3∨k=4)with rfl|rfl|rfl|rfl|rfl
 ·have hne':¬a.slot=b.slot:=hne;rw[if_neg hne'];rfl
 ·have hne':¬a.round=b.round:=hne;rw[if_pos (h0 (by omega)),if_neg hne'];rfl
 ·have hne':¬a.kind=b.kind:=hne;rw[if_pos (h0 (by omega)),if_pos (h1 (by omega)),if_neg hne'];rfl
 ·have hne':¬a.signer=b.signer:=hne;rw[if_pos (h0 (by omega)),if_pos (h1 (by omega)),if_pos (h2 (by omega)),if_neg hne'];rfl
 ·have hne':¬a.choice=b.choice:=hne;rw[if_pos (h0 (by omega)),if_pos (h1 (by omega)),if_pos (h2 (by omega)),if_pos (h3 (by omega)),if_neg hne'];rfl
theorem PB(a b:Vt)(hp:a.parent=b.parent)(h:∀j,j<5→(Dg a).getD j 0=(Dg b).getD j 0):Bg a b=if a.value=b.value then decide (a.support<b.support)else DJ a.value b.value:=by
 have h0:a.slot=b.slot:=h 0 (by omega);have h1:a.round=b.round:=h 1 (by omega);have h2:a.kind=b.kind:=h 2 (by omega);have h3:a.signer=b.signer:=h 3 (by omega);have h4:a.choice=b.choice:=h 4 (by omega);unfold Bg;rw[if_pos hp,if_pos h0,if_pos h1,if_pos h2,if_pos h3,if_pos h4]
theorem Vt.row_parent{w:World}{g t:Nat}(v:Vt)(h:Blk w g t v.cells):AK w g 6 8=some v.parent.cells:=
 Blk.part h 6 v.parent.cells (fun j u hu=>by
  have hj:j<8:=(Aa.1 hu).1;rcases(by omega:j=0∨j=1∨j=2∨j=3∨j=4∨j=5∨j=6∨j=7)with rfl|rfl|rfl|rfl|rfl|rfl|rfl|rfl <;> exact hu)
theorem Vt.row_value{w:World}{g t:Nat}(v:Vt)(h:Blk w g t v.cells):AK w g 14 8=some v.value.cells:=
 Blk.part h 14 v.value.cells (fun j u hu=>by
  have hj:j<8:=(Aa.1 hu).1;rcases(by omega:j=0∨j=1∨j=2∨j=3∨j=4∨j=5∨j=6∨j=7)with rfl|rfl|rfl|rfl|rfl|rfl|rfl|rfl <;> exact hu)
theorem Q5(a b:Vt)(w:World)(hp:¬a.parent=b.parent):Calls Tryz.prog 109 #[a.val,b.val] w (Al w (Bg a b)):=by
 have e1:∀W,(Op.equalIn 10000 24 a.parent.val b.parent.val).run Tryz.prog W= .ok false W:=fun W=>by
  have:=Dz a.parent b.parent W 9998;rwa[decide_eq_false hp]at this
 have hr:Bg a b=DJ a.parent b.parent:=by unfold Bg;rw[if_neg hp]
 have Hr:=AA hr;clear hr hp;have hA:Blk ((w.alloc (Obj.cells a.cells 46)).alloc (Obj.cells b.cells 46)) w.heap.size 46 a.cells:=(Blk.new w _ _).alloc _;have hB:Blk ((w.alloc (Obj.cells a.cells 46)).alloc (Obj.cells b.cells 46)) (w.heap.size+1) 46 b.cells:=by
  have:=Blk.new (w.alloc (Obj.cells a.cells 46)) 46 b.cells;simpa using this
 have hbW:Below w.heap.size w ((w.alloc (Obj.cells a.cells 46)).alloc (Obj.cells b.cells 46)):=((AC _ _).alloc (AB _) _).alloc (by simp) _;have x0:=a.row_parent hA;have y0:=b.row_parent hB;go_enter Tryz.func109,Tryz.ntmps109;go_wp2_with fail
 refine(Ee a.parent b.parent _).mono ?_;rintro en w2 ⟨rfl,hb2⟩;go_wp2;go_ret;exact⟨by rw[Hr.out];rfl,hbW.trans (hb2.mono hbW.size)⟩
theorem Q6(a b:Vt)(w:World)(hp:a.parent=b.parent):Calls Tryz.prog 109 #[a.val,b.val] w (Al w (Bg a b)):=by
 have e1:∀W,(Op.equalIn 10000 24 a.parent.val b.parent.val).run Tryz.prog W= .ok true W:=fun W=>by
  have:=Dz a.parent b.parent W 9998;rwa[decide_eq_true hp]at this
 have Hp:=AA hp;clear hp;have hA:Blk ((w.alloc (Obj.cells a.cells 46)).alloc (Obj.cells b.cells 46)) w.heap.size 46 a.cells:=(Blk.new w _ _).alloc _;have hB:Blk ((w.alloc (Obj.cells a.cells 46)).alloc (Obj.cells b.cells 46)) (w.heap.size+1) 46 b.cells:=by
  have:=Blk.new (w.alloc (Obj.cells a.cells 46)) 46 b.cells;simpa using this
 have hbW:Below w.heap.size w ((w.alloc (Obj.cells a.cells 46)).alloc (Obj.cells b.cells 46)):=((AC _ _).alloc (AB _) _).alloc (by simp) _;have x0:=a.row_parent hA;have y0:=b.row_parent hB;clear hA hB hbW;go_enter Tryz.func109,Tryz.ntmps109;go_wp2_with fail
 clear x0 y0 e1;have hA:Blk ((((w.alloc (Obj.cells a.cells 46)).alloc (Obj.cells b.cells 46)).alloc (Obj.cells #[I a.slot,I a.round,I a.kind,I a.signer,I a.choice] 206)).alloc (Obj.cells #[I b.slot,I b.round,I b.kind,I b.signer,I b.choice] 206)) w.heap.size 46 a.cells:=(((Blk.new w _ _).alloc _).alloc _).alloc _;have hB:Blk ((((w.alloc (Obj.cells a.cells 46)).alloc (Obj.cells b.cells 46)).alloc (Obj.cells #[I a.slot,I a.round,I a.kind,I a.signer,I a.choice] 206)).alloc (Obj.cells #[I b.slot,I b.round,I b.kind,I b.signer,I b.choice] 206)) (w.heap.size+1) 46 b.cells:=by
  have:=((Blk.new (w.alloc (Obj.cells a.cells 46)) 46 b.cells).alloc (Obj.cells #[I a.slot,I a.round,I a.kind,I a.signer,I a.choice] 206)).alloc (Obj.cells #[I b.slot,I b.round,I b.kind,I b.signer,I b.choice] 206);simpa using this
 have hX:Blk ((((w.alloc (Obj.cells a.cells 46)).alloc (Obj.cells b.cells 46)).alloc (Obj.cells #[I a.slot,I a.round,I a.kind,I a.signer,I a.choice] 206)).alloc (Obj.cells #[I b.slot,I b.round,I b.kind,I b.signer,I b.choice] 206)) (w.heap.size+1+1) 206 #[I a.slot,I a.round,I a.kind,I a.signer,I a.choice]:=by
  have:=(Blk.new ((w.alloc (Obj.cells a.cells 46)).alloc (Obj.cells b.cells 46)) 206 #[I a.slot,I a.round,I a.kind,I a.signer,I a.choice]).alloc (Obj.cells #[I b.slot,I b.round,I b.kind,I b.signer,I b.choice] 206);simpa using this
 have hY:Blk ((((w.alloc (Obj.cells a.cells 46)).alloc (Obj.cells b.cells 46)).alloc (Obj.cells #[I a.slot,I a.round,I a.kind,I a.signer,I a.choice] 206)).alloc (Obj.cells #[I b.slot,I b.round,I b.kind,I b.signer,I b.choice] 206)) (w.heap.size+1+1+1) 206 #[I b.slot,I b.round,I b.kind,I b.signer,I b.choice]:=by
  have:=Blk.new (((w.alloc (Obj.cells a.cells 46)).alloc (Obj.cells b.cells 46)).alloc (Obj.cells #[I a.slot,I a.round,I a.kind,I a.signer,I a.choice] 206)) 206 #[I b.slot,I b.round,I b.kind,I b.signer,I b.choice];simpa using this
 have hbW:Below w.heap.size w ((((w.alloc (Obj.cells a.cells 46)).alloc (Obj.cells b.cells 46)).alloc (Obj.cells #[I a.slot,I a.round,I a.kind,I a.signer,I a.choice] 206)).alloc (Obj.cells #[I b.slot,I b.round,I b.kind,I b.signer,I b.choice] 206)):=((((AC _ _).alloc (AB _) _).alloc (by simp) _).alloc (by simp;omega) _).alloc (by simp;omega) _;generalize ((((w.alloc (Obj.cells a.cells 46)).alloc (Obj.cells b.cells 46)).alloc (Obj.cells #[I a.slot,I a.round,I a.kind,I a.signer,I a.choice] 206)).alloc (Obj.cells #[I b.slot,I b.round,I b.kind,I b.signer,I b.choice] 206))=W at*
 go_loopw [40] (fun i wr=>∃k n:Nat,k≤5∧i= .int .i64 k∧wr=W.drewN n∧∀j,j<k→(Dg a).getD j 0=(Dg b).getD j 0) (fun i _=>5-(intOf i).toNat)
 case atStart=>exact⟨0,0,by omega,rfl,rfl,fun j hj=>by omega⟩
 case round=>
  obtain⟨k,n,hk,rfl,rfl,heq⟩:=hrel;have Heq:=AA heq;clear heq;by_cases hlt:k<5
  ·have c1:W.cell? ⟨w.heap.size+1+1,k,none⟩=some (I ((Dg a).getD k 0)):=(hX.cell k).trans (KI a k hlt);have c2:W.cell? ⟨w.heap.size+1+1+1,k,none⟩=some (I ((Dg b).getD k 0)):=(hY.cell k).trans (KI b k hlt);have i1:(0:Int)≤(k:Int):=by omega
   have i2:(k:Int)<5:=by omega
   by_cases hne:(Dg a).getD k 0=(Dg b).getD k 0
   ·have E:Hid (∀j,j<k+1→(Dg a).getD j 0=(Dg b).getD j 0):=fun j hj=>by
     rcases Nat.lt_or_ge j k with h|h
     ·exact Heq.out j h
     ·obtain rfl:j=k:=by omega
      exact hne
    have hb:(((Dg a).getD k 0) !=((Dg b).getD k 0))=false:=by rw[hne];exact bne_self_eq_false _
    clear hne;generalize (Dg a).getD k 0=x at*;generalize (Dg b).getD k 0=y at*;go_wp2
    go_quiet (fail)
    go_wp2;go_roundw
    case rel=>exact⟨k+1,_,by omega,by go_num,rfl,E.out⟩
    case measure=>simp[intOf];omega
   ·have hr:=Q4 a b k hlt Hp.out Heq.out hne;have Hr:=AA hr;have hb:(((Dg a).getD k 0) !=((Dg b).getD k 0))=true:=by simpa using hne
    clear hne hr;generalize (Dg a).getD k 0=x at*;generalize (Dg b).getD k 0=y at*;go_wp2
    go_quiet (fail)
    go_wp2
    go_quiet (fail)
    go_wp2;go_ret;exact⟨by rw[Hr.out];rfl,BN (BN (BN hbW _) _) _⟩
  ·obtain rfl:k=5:=by omega
   have hr:=PB a b Hp.out Heq.out;have x0:=a.row_value hA;have y0:=b.row_value hB;have s1:W.cell? ⟨w.heap.size,5,none⟩=some (I a.support):=hA.cell 5;have s2:W.cell? ⟨w.heap.size+1,5,none⟩=some (I b.support):=hB.cell 5;by_cases hv:a.value=b.value
   ·have e2:∀W,(Op.equalIn 10000 24 a.value.val b.value.val).run Tryz.prog W= .ok true W:=fun W=>by
     have:=Dz a.value b.value W 9998;rwa[decide_eq_true hv]at this
    rw[if_pos hv]at hr;have Hr:=AA hr;clear hr hv;go_wp2;go_ret;exact⟨by rw[Hr.out];rfl,BN hbW _⟩
   ·have e2:∀W,(Op.equalIn 10000 24 a.value.val b.value.val).run Tryz.prog W= .ok false W:=fun W=>by
     have:=Dz a.value b.value W 9998;rwa[decide_eq_false hv]at this
    rw[if_neg hv]at hr;have Hr:=AA hr;clear hr hv;go_wp2_with fail
    refine(Ee a.value b.value _).mono ?_;rintro en w2 ⟨rfl,hb2⟩;have hbw:=BN hbW n;go_wp2;go_ret;exact⟨by rw[Hr.out];rfl,hbw.trans (hb2.mono hbw.size)⟩
theorem KJ(a b:Vt)(w:World):Calls Tryz.prog 109 #[a.val,b.val] w (Al w (Bg a b)):=by
 by_cases hp:a.parent=b.parent
 ·exact Q6 a b w hp
 ·exact Q5 a b w hp
end
section

section
variable {α:Type}
def seg(l:List α)(s e:Nat):List α:=(l.take e).drop s
def CO(l:List α)(i j:Nat):List α:=match l[i]?,l[j]? with
 |some x,some y=>(l.set i y).set j x
 |_,_=>l
theorem Ky(l:List α)(i j:Nat):(CO l i j).length=l.length:=by
 unfold CO;split <;> simp
theorem Fj(P M S:List α)(x y:α):CO (P++x::(M++y::S)) P.length (P.length+1+M.length)=P++y::(M++x::S):=by
 have h1:(P++x::(M++y::S))[P.length]? =some x:=by simp
 have h2:(P++x::(M++y::S))[P.length+1+M.length]? =some y:=by
  rw[List.getElem?_append_right (by omega),show P.length+1+M.length-P.length=M.length+1 from by omega];simp
 unfold CO;rw[h1,h2];show(List.set (List.set _ _ _) _ _)=_;rw[List.set_append_right _ _ (AB _),Nat.sub_self,List.set_cons_zero,List.set_append_right _ _ (by omega),show P.length+1+M.length-P.length=M.length+1 from by omega,List.set_cons_succ,
  List.set_append_right _ _ (AB _),Nat.sub_self,List.set_cons_zero]
theorem JZ(l:List α)(i j:Nat):CO l i j=CO l j i:=by
 unfold CO;rcases hi:l[i]? with _|x <;> rcases hj:l[j]? with _|y <;> simp only[]
 by_cases h:i=j
 ·subst h;rw[hi]at hj;cases hj;rfl
 ·rw[List.set_comm _ _ h]
theorem NC(P M S:List α)(x y:α):CO (P++x::(M++y::S)) (P.length+1+M.length) P.length=P++y::(M++x::S):=by
 rw[JZ,Fj]
theorem ND(P S:List α)(x y:α):CO (P++x::y::S) P.length (P.length+1)=P++y::x::S:=Fj P [] S x y
theorem Ja(P S:List α)(x y:α):CO (P++x::y::S) (P.length+1) P.length=P++y::x::S:=NC P [] S x y
structure CB (l l':List α)(a b:Nat):Prop where
 pre:l'.take a=l.take a
 suf:l'.drop b=l.drop b
 perm:l'.Perm l
theorem CB.refl(l:List α)(a b:Nat):CB l l a b:=⟨rfl,rfl,List.Perm.refl _⟩
theorem CB.len{l l':List α}{a b:Nat}(h:CB l l' a b):l'.length=l.length:=h.perm.length_eq
theorem CB.wider{l l':List α}{a b a' b':Nat}(h:CB l l' a b)(ha:a'≤a)(hb:b≤b'):CB l l' a' b':=by
 refine⟨?_,?_,h.perm⟩
 ·have:=congrArg (List.take a') h.pre;rwa[List.take_take,List.take_take,Nat.min_eq_left ha]at this
 ·have:=congrArg (List.drop (b'-b)) h.suf;rwa[List.drop_drop,List.drop_drop,Nat.add_sub_cancel' hb]at this
theorem CB.trans{l l' l'':List α}{a b:Nat}(h:CB l l' a b)(h':CB l' l'' a b):CB l l'' a b:=⟨h'.pre.trans h.pre,h'.suf.trans h.suf,h'.perm.trans h.perm⟩
theorem CB.seg_lo{l l':List α}{a b s e:Nat}(h:CB l l' a b)(he:e≤a):seg l' s e=seg l s e:=by
 unfold seg;have:=congrArg (List.take e) h.pre;rw[List.take_take,List.take_take,Nat.min_eq_left he]at this;rw[this]
theorem CB.seg_hi{l l':List α}{a b s e:Nat}(h:CB l l' a b)(hs:b≤s):seg l' s e=seg l s e:=by
 unfold seg;rw[List.drop_take,List.drop_take];have:=congrArg (List.drop (s-b)) h.suf;rw[List.drop_drop,List.drop_drop,Nat.add_sub_cancel' hs]at this;rw[this]
theorem IW{P X X' S:List α}{a b:Nat}(ha:P.length=a)(hb:P.length+X.length=b)(hp:X'.Perm X):CB (P++(X++S)) (P++(X'++S)) a b:=by
 subst ha;subst hb;refine⟨by simp,?_,(hp.append_right S).append_left P⟩;have h1:List.drop (P.length+X.length) (P++(X++S))=S:=by rw[←List.drop_drop,List.drop_left,List.drop_left]
 have h2:List.drop (P.length+X.length) (P++(X'++S))=S:=by rw[←List.drop_drop,List.drop_left,←hp.length_eq,List.drop_left]
 rw[h1,h2]
theorem Gk{P X S:List α}{a b:Nat}(ha:P.length=a)(hb:P.length+X.length=b):seg (P++(X++S)) a b=X:=by
 subst ha;subst hb;unfold seg;rw[←List.append_assoc,List.take_append_of_le_length (by simp),AT (by simp),List.drop_left]
theorem Fk(l:List α){a b:Nat}(hab:a≤b)(hb:b≤l.length):l=l.take a++(seg l a b++l.drop b)∧(l.take a).length=a∧(l.take a).length+(seg l a b).length=b:=by
 refine⟨?_,by rw[AZ];omega,by unfold seg;rw[List.length_drop,AZ,AZ];omega⟩;unfold seg;have h1:l.take b=(l.take b).take a++(l.take b).drop a:=(Aj _ _).symm;rw[List.take_take,Nat.min_eq_left hab]at h1;rw[←List.append_assoc,←h1,Aj]
theorem C5(l:List α){a m b:Nat}(ham:a≤m)(hmb:m≤b):seg l a b=seg l a m++seg l m b:=by
 unfold seg;rw[List.drop_take,List.drop_take,List.drop_take,show b-a=(m-a)+(b-m)from by omega,List.take_add,List.drop_drop,Nat.add_sub_cancel' ham]
theorem ED(l:List α){a b i:Nat}(hi:a+i<b):(seg l a b)[i]? =l[a+i]?:=by
 unfold seg;rw[List.getElem?_drop,Bf,if_pos hi]
theorem CX(l:List α){a b:Nat}(hb:b≤l.length):(seg l a b).length=b-a:=by
 unfold seg;rw[List.length_drop,AZ,Nat.min_eq_left hb]
theorem Bu(l:List α){a b:Nat}(h:l.length≤a∨b≤a):seg l a b=[]:=by
 unfold seg;apply List.drop_eq_nil_of_le;rw[AZ];omega
theorem DR(l:List α){a b:Nat}(h:l.length≤b):seg l a b=seg l a l.length:=by
 unfold seg;rw[AT h,List.take_length]
end
structure Ord {α:Type}(lt:α→α→Bool):Prop where
 asymm:∀x y,lt x y=true→lt y x=false
 trans:∀x y z,lt y x=false→lt z y=false→lt z x=false
section
variable {α:Type}{lt:α→α→Bool}
def Asc(lt:α→α→Bool)(l:List α):Prop:=l.Pairwise fun x y=>lt y x=false
theorem Ord.irrefl(h:Ord lt)(x:α):lt x x=false:=by
 cases hx:lt x x with
 |false=>rfl
 |true=>have:=h.asymm x x hx;rw[hx]at this;cases this
theorem Asc.nil:Asc lt []:=List.Pairwise.nil
theorem Asc.one(x:α):Asc lt [x]:=List.pairwise_singleton _ _
theorem Cz{a b:List α}:Asc lt (a++b)↔Asc lt a∧Asc lt b∧∀x∈a,∀y∈b,lt y x=false:=List.pairwise_append
theorem Asc.get{l:List α}(h:Asc lt l){i j:Nat}{x y:α}(hij:i<j)(hx:l[i]? =some x)(hy:l[j]? =some y):lt y x=false:=by
 obtain⟨hi,rfl⟩:=AG.1 hx;obtain⟨hj,rfl⟩:=AG.1 hy;exact List.pairwise_iff_getElem.1 h i j hi hj hij
theorem Asc.last_le(ho:Ord lt){l:List α}{x y:α}(h:Asc lt (l++[x]))(hxy:lt y x=false):∀z∈l++[x],lt y z=false:=by
 intro z hz;rcases AP.1 hz with hz|hz
 ·exact ho.trans z x y ((Cz.1 h).2.2 z hz x (by simp)) hxy
 ·rw[AR.1 hz];exact hxy
theorem Asc.upto(ho:Ord lt){l:List α}{i:Nat}{x y:α}(h:Asc lt l)(hx:l[i]? =some x)(hxy:lt y x=false):∀z∈l.take (i+1),lt y z=false:=by
 intro z hz;obtain⟨k,hk⟩:=List.mem_iff_getElem?.1 hz;rw[Bf]at hk;split at hk
 ·rename_i hki
  rcases Nat.lt_or_ge k i with hlt|hge
  ·exact ho.trans z x y (h.get hlt hk hx) hxy
  ·obtain rfl:k=i:=by omega
   rw[hk]at hx;cases hx;exact hxy
 ·cases hk
theorem Asc.since(ho:Ord lt){l:List α}{i:Nat}{x y:α}(h:Asc lt l)(hx:l[i]? =some x)(hxy:lt x y=false):∀z∈l.drop i,lt z y=false:=by
 intro z hz;obtain⟨k,hk⟩:=List.mem_iff_getElem?.1 hz;rw[List.getElem?_drop]at hk;rcases Nat.eq_zero_or_pos k with h0|h0
 ·subst h0;rw[Nat.add_zero,hx]at hk;cases hk;exact hxy
 ·exact ho.trans y x z hxy (h.get (by omega) hx hk)
theorem Asc.take{l:List α}(h:Asc lt l)(k:Nat):Asc lt (l.take k):=List.Pairwise.sublist (List.take_sublist k l) h
theorem Asc.drop{l:List α}(h:Asc lt l)(k:Nat):Asc lt (l.drop k):=List.Pairwise.sublist (List.drop_sublist k l) h
theorem GD{a b:List α}{x:α}(h:Asc lt (a++b))(ha:∀z∈a,lt x z=false)(hb:∀z∈b,lt z x=false):Asc lt (a++x::b):=by
 obtain⟨h1,h2,h3⟩:=Cz.1 h;refine Cz.2 ⟨h1,List.pairwise_cons.2 ⟨hb,h2⟩,fun z hz y hy=>?_⟩;rcases List.mem_cons.1 hy with rfl|hy
 ·exact ha z hz
 ·exact h3 z hz y hy
def EL(lt:α→α→Bool)(bs:Nat)(l:List α):Prop:=∀t,Asc lt (seg l (t*bs) ((t+1)*bs))
theorem EL.all{bs:Nat}{l:List α}(h:EL lt bs l)(hb:l.length≤bs):Asc lt l:=by
 have:=h 0;rw[Nat.zero_mul,Nat.zero_add,Nat.one_mul,DR l hb]at this;unfold seg at this;simpa using this
end
section
variable {α:Type}{lt:α→α→Bool}
theorem CB.seg_perm{l l':List α}{a b:Nat}(h:CB l l' a b)(hab:a≤b)(hb:b≤l.length):(seg l' a b).Perm (seg l a b):=by
 obtain⟨e,_,_⟩:=Fk l hab hb;obtain⟨e',_,_⟩:=Fk l' hab (by rw[h.len];exact hb);have hp:=h.perm;rw[e,e',h.pre,h.suf]at hp;exact(List.perm_append_right_iff _).1 ((List.perm_append_left_iff _).1 hp)
theorem Q7{l l1 l2 l3:List α}{a s m mid e b:Nat}(has:a≤s)(hsm:s≤m)(hme:m≤e)(heb:e≤b)(hbl:b≤l.length)(hmid:mid+m=s+e)(hX:Asc lt (seg l a m))(hY:Asc lt (seg l m b))(F1:∀x∈seg l a s,∀y∈seg l e b,lt y x=false)(F2:∀x∈seg l m e,∀y∈seg l s m,lt y x=false)(k1:CB l l1 s e)(q1:seg l1 s mid=seg l m e)(q2:seg l1 mid e=seg l s m)(k2:CB l1 l2 a mid)(z2:Asc lt (seg l2 a mid))(k3:CB l2 l3 mid b)(z3:Asc lt (seg l3 mid b)):CB l l3 a b∧Asc lt (seg l3 a b):=by
 have b1:s≤mid:=by omega
 have b2:mid≤e:=by omega
 refine⟨((k1.wider has heb).trans (k2.wider (AB _) (by omega))).trans (k3.wider (by omega) (AB _)),?_⟩;have p1:(seg l3 a mid).Perm (seg l a s++seg l m e):=by
  rw[k3.seg_lo (AB _)];refine(k2.seg_perm (by omega) (by rw[k1.len];omega)).trans ?_;rw[C5 l1 has b1,k1.seg_lo (AB _),q1]
 have p2:(seg l3 mid b).Perm (seg l s m++seg l e b):=by
  refine(k3.seg_perm (by omega) (by rw[k2.len,k1.len];omega)).trans ?_;rw[k2.seg_hi (AB _),C5 l1 b2 heb,q2,k1.seg_hi (AB _)]
 rw[C5 l has hsm]at hX;rw[C5 l hme heb]at hY;rw[C5 l3 (show a≤mid by omega) (show mid≤b by omega)];refine Cz.2 ⟨by rw[k3.seg_lo (AB _)];exact z2,z3,fun x hx y hy=>?_⟩;rcases AP.1 (p1.mem_iff.1 hx)with hx|hx <;> rcases AP.1 (p2.mem_iff.1 hy)with hy|hy
 ·exact(Cz.1 hX).2.2 x hx y hy
 ·exact F1 x hx y hy
 ·exact F2 x hx y hy
 ·exact(Cz.1 hY).2.2 x hx y hy
theorem TZ(ho:Ord lt){l:List α}{a s m e b:Nat}{x y:α}(hm:s<m+1)(hme:m≤e)(hX:Asc lt (seg l a m))(hY:Asc lt (seg l m b))(has:a+1≤s)(heb:e<b)(hx:l[s-1]? =some x)(hy:l[e]? =some y)(h:lt y x=false):∀u∈seg l a s,∀v∈seg l e b,lt v u=false:=by
 intro u hu v hv;have e1:seg l a s=(seg l a m).take (s-1-a+1):=by
  unfold seg;rw[List.drop_take,List.drop_take,List.take_take];congr 1;omega
 have e2:seg l e b=(seg l m b).drop (e-m):=by
  unfold seg;rw[List.drop_drop];congr 1;omega
 rw[e1]at hu;rw[e2]at hv;have h1:=hX.upto ho (i:=s-1-a) (x:=x) (y:=y) (by rw[ED l (by omega),←hx];congr 1;omega) h u hu;have h2:=hY.since ho (i:=e-m) (x:=y) (y:=y) (by rw[ED l (by omega),←hy];congr 1;omega) (ho.irrefl y) v hv;exact ho.trans u y v h1 h2
theorem Ta(ho:Ord lt){l:List α}{a s m e b:Nat}{x y:α}(hsm:s<m)(hme:m<e)(has:a≤s)(heb:e≤b)(hX:Asc lt (seg l a m))(hY:Asc lt (seg l m b))(hx:l[s]? =some x)(hy:l[e-1]? =some y)(h:lt y x=true):∀u∈seg l m e,∀v∈seg l s m,lt v u=false:=by
 intro u hu v hv;have e1:seg l m e=(seg l m b).take (e-1-m+1):=by
  unfold seg;rw[List.drop_take,List.drop_take,List.take_take];congr 1;omega
 have e2:seg l s m=(seg l a m).drop (s-a):=by
  unfold seg;rw[List.drop_drop];congr 1;omega
 rw[e1]at hu;rw[e2]at hv;have h1:=hY.upto ho (i:=e-1-m) (x:=y) (y:=y) (by rw[ED l (by omega),←hy];congr 1;omega) (ho.irrefl y) u hu;have h2:=hX.since ho (i:=s-a) (x:=x) (y:=y) (by rw[ED l (by omega),←hx];congr 1;omega) (ho.asymm _ _ h) v hv;exact ho.trans u y v h1 h2
theorem PC(ho:Ord lt){P S Y:List α}{x:α}{a b i:Nat}(ha:P.length=a)(hb:a+1+Y.length=b)(hY:Asc lt Y)(hi:i≤Y.length)(h1:i=0∨∃u,Y[i-1]? =some u∧lt u x=true)(h2:i=Y.length∨∃u,Y[i]? =some u∧lt u x=false):CB (P++(x::Y++S)) (P++((Y.take i++x::Y.drop i)++S)) a b∧Asc lt (seg (P++((Y.take i++x::Y.drop i)++S)) a b):=by
 have hp:(Y.take i++x::Y.drop i).Perm (x::Y):=by
  refine List.perm_middle.trans ?_;rw[Aj]
 refine⟨IW ha (by rw[ha,Af];omega) hp,?_⟩;rw[Gk ha (by rw[ha,hp.length_eq,Af];omega)];refine GD (by rw[Aj];exact hY) ?_ ?_
 ·rcases h1 with rfl|⟨u,hu,hlt⟩
  ·intro z hz;simp at hz
  ·rcases Nat.eq_zero_or_pos i with h0|h0
   ·subst h0;intro z hz;simp at hz
   ·have:=hY.upto ho hu (ho.asymm _ _ hlt);rwa[show i-1+1=i from by omega]at this
 ·rcases h2 with rfl|⟨u,hu,hlt⟩
  ·intro z hz;simp at hz
  ·exact hY.since ho hu hlt
theorem Q8(ho:Ord lt){P S X:List α}{y:α}{a b i:Nat}(ha:P.length=a)(hb:a+X.length+1=b)(hX:Asc lt X)(hi:i≤X.length)(h1:i=0∨∃u,X[i-1]? =some u∧lt y u=false)(h2:i=X.length∨∃u,X[i]? =some u∧lt y u=true):CB (P++((X++[y])++S)) (P++((X.take i++y::X.drop i)++S)) a b∧Asc lt (seg (P++((X.take i++y::X.drop i)++S)) a b):=by
 have hp:(X.take i++y::X.drop i).Perm (X++[y]):=by
  refine List.perm_middle.trans ?_;rw[Aj];exact(List.perm_append_singleton y X).symm
 refine⟨IW ha (by rw[ha,AI,List.length_singleton];omega) hp,?_⟩;rw[Gk ha (by rw[ha,hp.length_eq,AI,List.length_singleton];omega)];refine GD (by rw[Aj];exact hX) ?_ ?_
 ·rcases h1 with rfl|⟨u,hu,hlt⟩
  ·intro z hz;simp at hz
  ·rcases Nat.eq_zero_or_pos i with h0|h0
   ·subst h0;intro z hz;simp at hz
   ·have:=hX.upto ho hu hlt;rwa[show i-1+1=i from by omega]at this
 ·rcases h2 with rfl|⟨u,hu,hlt⟩
  ·intro z hz;simp at hz
  ·exact hX.since ho hu (ho.asymm _ _ hlt)
theorem EL.twice{bs k:Nat}{l:List α}(hlo:∀t,t<k→Asc lt (seg l (t*(2*bs)) ((t+1)*(2*bs))))(hlast:Asc lt (seg l (k*(2*bs)) ((k+1)*(2*bs))))(hend:l.length<(k+1)*(2*bs)):EL lt (2*bs) l:=by
 intro t;rcases Nat.lt_trichotomy t k with h|h|h
 ·exact hlo t h
 ·subst h;exact hlast
 ·have h2:(k+1)*(2*bs)≤t*(2*bs):=Nat.mul_le_mul_right _ h;rw[Bu l (.inl (by omega))];exact Asc.nil
end
end
section
open Go.RowKit
section
variable {α:Type}{c:α→List Value}{t:TypeId}{w0 w w':World}{g:Nat}{l l':List α}
structure Row (c:α→List Value)(t:TypeId)(w0:World)(g:Nat)(l:List α)(w:World):Prop where
 blk:Blk w g t (l.flatMap c).toArray
 kept:w0.grownBy w (some g)
theorem Row.self(h:Blk w g t (l.flatMap c).toArray):Row c t w g l w:=⟨h,Ai w g⟩
theorem Row.trans(h:Row c t w0 g l w)(h':Row c t w g l' w'):Row c t w0 g l' w':=⟨h'.blk,h.kept.trans h'.kept⟩
theorem Row.alloc(h:Row c t w0 g l w)(o:Obj):Row c t w0 g l (w.alloc o):=⟨h.blk.alloc o,Bl h.kept o⟩
theorem Row.below(h:Row c t w0 g l w)(hb:Below w.heap.size w w'):Row c t w0 g l w':=
 ⟨h.blk.below hb h.blk.lt,h.kept.trans ⟨hb.os,hb.tape,hb.output,hb.size,fun i hi _=>hb.block i hi⟩⟩
theorem EE(w:World)(o:Obj)(row:Option Nat):w.grownBy (w.alloc o) row:=⟨rfl,rfl,rfl,by simp,fun i hi _=>Below.heap_alloc w o i hi⟩
theorem Row.off{o:Obj}(h:Row c t (w.alloc o) g l' w'):Row c t w g l' w':=⟨h.blk,(EE w o (some g)).trans h.kept⟩
theorem Row.box{k:Nat}{tb:TypeId}{cs:Array Value}(h:Row c t w0 g l w)(hB:Blk w0 k tb cs)(hk:k≠g):Blk w k tb cs:=hB.kept h.kept (by simpa using hk)
def D2(c:α→List Value)(t:TypeId)(w0:World)(g:Nat)(l0:List α)(lt:α→α→Bool)(f:Nat)(lb:Array Value):Prop:=
 ∀(W:World) (l:List α) (i j:Nat) (x y:α),Row c t w0 g l W→l.Perm l0→l[i]? =some x→l[j]? =some y→
  Calls Tryz.prog f (#[.int .i64 (i:Int),.int .i64 (j:Int)]++lb) W fun e w'=>e= .returned (.bool (lt x y))∧Below W.heap.size W w'
def EM(c:α→List Value)(t:TypeId)(w0:World)(g n:Nat)(f:Nat)(sb:Array Value):Prop:=
 ∀(W:World) (l:List α) (i j:Nat),Row c t w0 g l W→l.length=n→i<n→j<n→i≠j→
  ∃W',(callFunc f (#[.int .i64 (i:Int),.int .i64 (j:Int)]++sb)).run Tryz.prog W= .ok (.value (.tuple #[])) W'∧Row c t W g (CO l i j) W'
theorem D2.later{l0:List α}{lt:α→α→Bool}{f:Nat}{lb:Array Value}(h:D2 c t w0 g l0 lt f lb)(hw:w0.grownBy w (some g)):D2 c t w g l0 lt f lb:=
 fun W l i j x y hr hp hx hy=>h W l i j x y ⟨hr.blk,hw.trans hr.kept⟩ hp hx hy
end
theorem DD(g t:Nat):∀(vs:List Value) (s:Nat) (w:World) (cs:List Value),Blk w g t cs.toArray→s+vs.length≤cs.length→
  Blk (w.setCells g s vs) g t (cs.take s++vs++cs.drop (s+vs.length)).toArray∧w.grownBy (w.setCells g s vs) (some g)
 |[],s,w,cs,h,_=>by
  refine⟨?_,Ai w g⟩;rw[World.setCells,List.append_nil,List.length_nil,Nat.add_zero,Aj];exact h
 |v::r,s,w,cs,h,hl=>by
  rw[Af]at hl;have h1:Blk (w.setCell ⟨g,s,none⟩ v) g t (cs.set s v).toArray:=by
   have:=h.put s v;simpa using this
  obtain⟨h2,h3⟩:=DD g t r (s+1) _ _ h1 (by rw[List.length_set];omega);rw[World.setCells];refine⟨?_,(Bi (Ai w g) rfl v).trans h3⟩;have e:List.take s cs++v::r++List.drop (s+(v::r).length) cs=List.take (s+1) (cs.set s v)++r++List.drop (s+1+r.length) (cs.set s v):=by
   rw[List.drop_set_of_lt (by omega),Af,List.take_set,List.take_succ_eq_append_getElem (by omega),List.set_append_right _ _ (by rw[AZ];omega)];simp[AZ,Nat.min_eq_left (show s≤cs.length by omega)];congr 1;omega
  rw[e];exact h2
theorem Gl{α:Type}(f:α→List Value)(m:Nat)(l:List α)(hm:∀x∈l,(f x).length=m)(i:Nat)(x:α)(hi:i<l.length):(l.set i x).flatMap f=(l.flatMap f).take (i*m)++f x++(l.flatMap f).drop (i*m+m):=by
 have e1:(l.flatMap f).take (i*m)=(l.take i).flatMap f:=by
  have e:l.flatMap f=(l.take i).flatMap f++(l.drop i).flatMap f:=by rw[←Ad,Aj]
  have hl:((l.take i).flatMap f).length=i*m:=by
   rw[AX f m _ (fun z hz=>hm z (List.mem_of_mem_take hz)),AZ,Nat.min_eq_left (by omega)]
  rw[e,←hl,List.take_left]
 have e2:(l.flatMap f).drop (i*m+m)=(l.drop (i+1)).flatMap f:=by
  have e:l.flatMap f=(l.take (i+1)).flatMap f++(l.drop (i+1)).flatMap f:=by rw[←Ad,Aj]
  have hl:((l.take (i+1)).flatMap f).length=i*m+m:=by
   rw[AX f m _ (fun z hz=>hm z (List.mem_of_mem_take hz)),AZ,Nat.min_eq_left (by omega),Nat.succ_mul]
  rw[e,←hl,List.drop_left]
 rw[e1,e2,List.set_eq_take_append_cons_drop,if_pos hi];simp
theorem NG{α:Type}(c:α→List Value)(m:Nat)(t e:TypeId)(w0:World)(g n cap f:Nat)(gS:Bool)(hx:∀args W,(callFunc f args).run Tryz.prog W=((Extern.ReflectliteSwapper.swap gS args).run Tryz.prog W).andThen fun v w'=>.ok (.value v) w')(ie:TypeInfo)(hie:Tryz.prog.info? e=some ie)(hsz:ie.size=m)(hagg:∀w,(isAgg e).run Tryz.prog w= .ok true w)(hm:∀x,(c x).length=m)(h1:∀x,∀v∈c x,v.oneCell'=true):EM c t w0 g n f #[.slice (some ⟨g,0,none⟩) n cap,typeHandle Tryz.prog e]:=by
 intro W l i j hr hn hi hj _;subst hsz;obtain⟨x,hx1⟩:∃x,l[i]? =some x:=⟨_,AE (by omega)⟩;obtain⟨y,hy1⟩:∃y,l[j]? =some y:=⟨_,AE (by omega)⟩;have hlen:∀(l:List α),(l.flatMap c).length=l.length*ie.size:=fun l=>AX c ie.size l (fun x _=>hm x)
 have cell:∀(k u:Nat) (z:α) (v:Value),l[k]? =some z→(c z)[u]? =some v→W.cell? ⟨g,0+k*ie.size+u,none⟩=some v:=by
  intro k u z v hz hv;rw[hr.blk.cell,Nat.zero_add];have:=CG c ie.size l (fun x _=>hm x) k u z hz (by rw[←hm z];exact(AG.1 hv).1);rw[List.getElem?_toArray,this,hv]
 have hrun:=Lib.run_swap_cells (P:=Tryz.prog) gS e ie hie hagg g 0 n cap i j hi hj (c x) (c y) (hm x) (hm y) (h1 x) (h1 y) W (fun u v hv=>cell i u x v hx1 hv) (fun u v hv=>cell j u y v hy1 hv)
  (fun u _=>hr.blk.frozen _) (fun u _=>hr.blk.frozen _)
 have bi:i*ie.size+ie.size≤l.length*ie.size:=by
  have:=Nat.mul_le_mul_right ie.size (show i+1≤l.length by omega);rwa[Nat.succ_mul]at this
 have bj:j*ie.size+ie.size≤l.length*ie.size:=by
  have:=Nat.mul_le_mul_right ie.size (show j+1≤l.length by omega);rwa[Nat.succ_mul]at this
 obtain⟨b1,k1⟩:=DD g t (c y) (i*ie.size) W (l.flatMap c) hr.blk (by rw[hm,hlen];exact bi);rw[hm,←Gl c ie.size l (fun x _=>hm x) i y (by omega)]at b1;obtain⟨b2,k2⟩:=DD g t (c x) (j*ie.size) _ ((l.set i y).flatMap c) b1 (by rw[hm,hlen,List.length_set];exact bj);rw[hm,←Gl c ie.size _ (fun x _=>hm x) j x (by rw[List.length_set];omega)]at b2;refine⟨_,?_,⟨?_,k1.trans k2⟩⟩
 ·rw[hx,show(#[Value.int .i64 (i:Int),Value.int .i64 (j:Int)]++#[Value.slice (some ⟨g,0,none⟩) n cap,typeHandle Tryz.prog e])=#[.int .i64 i,.int .i64 j,.slice (some ⟨g,0,none⟩) n cap,typeHandle Tryz.prog e]from rfl,hrun,Nat.zero_add,Nat.zero_add];rfl
 ·unfold CO;rw[hx1,hy1];exact b2
end
end Go.Proofs.YtadllffeoibelaaGreat
