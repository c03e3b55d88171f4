/-
  Parts of the proof. No condition.
-/
import Derived.Test.YtadllffeoibelaaGreatS3
import Derived.Lib.ReflectliteSwap
open Go.Proofs.Tryz
namespace Go.Proofs.YtadllffeoibelaaGreat
set_option maxRecDepth 100000
set_option maxHeartbeats 32000000
set_option linter.all false
section
open Go.RowKit
attribute [local go_sem ↓] Go.wp_at_zero Go.wp_at_succ Aq Au Av Aw
attribute [local go_sem] BE BL BM BN AR AX AU
def D7(v:Vt):List Int:=[v.slot,v.round,v.kind,v.signer,v.choice]
theorem LD(v:Vt)(k:Nat)(h:k<5):(#[I v.slot,I v.round,I v.kind,I v.signer,I v.choice]:Array Value)[k]? =some (I ((D7 v).getD k 0)):=by
 rcases(by omega:k=0∨k=1∨k=2∨k=3∨k=4)with rfl|rfl|rfl|rfl|rfl <;> rfl
theorem SX(a b:Vt)(k:Nat)(hk:k<5)(hp:a.parent=b.parent)(h:∀j,j<k->(D7 a).getD j 0=(D7 b).getD j 0)(hne:¬(D7 a).getD k 0=(D7 b).getD k 0):Bf a b=decide ((D7 a).getD k 0<(D7 b).getD k 0):=by
 have h0:0<k->a.slot=b.slot:=fun hh=>h 0 hh
 have h1:1<k->a.round=b.round:=fun hh=>h 1 hh
 have h2:2<k->a.kind=b.kind:=fun hh=>h 2 hh
 have h3:3<k->a.signer=b.signer:=fun hh=>h 3 hh
 clear h;unfold Bf;rw[if_pos hp];rcases(by omega:k=0∨k=1∨k=2∨k=3∨k=4)with rfl|rfl|rfl|rfl|rfl
 ·have hAe:¬a.slot=b.slot:=hne;rw[if_neg hAe];rfl
 ·have hAe:¬a.round=b.round:=hne;rw[if_pos (h0 (by omega)),if_neg hAe];rfl
 ·have hAe:¬a.kind=b.kind:=hne;rw[if_pos (h0 (by omega)),if_pos (h1 (by omega)),if_neg hAe];rfl
 ·have hAe:¬a.signer=b.signer:=hne;rw[if_pos (h0 (by omega)),if_pos (h1 (by omega)),if_pos (h2 (by omega)),if_neg hAe];rfl
 ·have hAe:¬a.choice=b.choice:=hne;rw[if_pos (h0 (by omega)),if_pos (h1 (by omega)),if_pos (h2 (by omega)),if_pos (h3 (by omega)),if_neg hAe];rfl
theorem Qf(a b:Vt)(hp:a.parent=b.parent)(h:∀j,j<5->(D7 a).getD j 0=(D7 b).getD j 0):Bf a b=if a.value=b.value then decide (a.support<b.support)else Dc a.value b.value:=by
 have h0:a.slot=b.slot:=h 0 (by omega);have h1:a.round=b.round:=h 1 (by omega);have h2:a.kind=b.kind:=h 2 (by omega);have h3:a.signer=b.signer:=h 3 (by omega);have h4:a.choice=b.choice:=h 4 (by omega);unfold Bf;rw[if_pos hp,if_pos h0,if_pos h1,if_pos h2,if_pos h3,if_pos h4]
theorem Vt.row_parent{w:World}{g t:Nat}(v:Vt)(h:Blk w g t v.cells):AK w g 6 8=some v.parent.cells:=
 Blk.part h 6 v.parent.cells (fun j u hu=>by
  have hj:j<8:=(Aa.1 hu).1;rcases(by omega:j=0∨j=1∨j=2∨j=3∨j=4∨j=5∨j=6∨j=7)with rfl|rfl|rfl|rfl|rfl|rfl|rfl|rfl <;> exact hu)
theorem Vt.row_value{w:World}{g t:Nat}(v:Vt)(h:Blk w g t v.cells):AK w g 14 8=some v.value.cells:=
 Blk.part h 14 v.value.cells (fun j u hu=>by
  have hj:j<8:=(Aa.1 hu).1;rcases(by omega:j=0∨j=1∨j=2∨j=3∨j=4∨j=5∨j=6∨j=7)with rfl|rfl|rfl|rfl|rfl|rfl|rfl|rfl <;> exact hu)
theorem SY(a b:Vt)(w:World)(hp:¬a.parent=b.parent):Calls prog 109 #[a.val,b.val] w (An w (Bf a b)):=by
 have e1:∀W,(Op.equalIn 10000 24 a.parent.val b.parent.val).run prog W= .ok false W:=fun W=>by
  have:=EW a.parent b.parent W 9998;rwa[decide_eq_false hp]at this
 have hr:Bf a b=Dc a.parent b.parent:=by unfold Bf;rw[if_neg hp]
 have Hr:=AA hr;clear hr hp;have hA:Blk ((w.alloc (Obj.cells a.cells 46)).alloc (Obj.cells b.cells 46)) w.heap.size 46 a.cells:=(Blk.new w _ _).alloc _;have hB:Blk ((w.alloc (Obj.cells a.cells 46)).alloc (Obj.cells b.cells 46)) (w.heap.size+1) 46 b.cells:=by
  have:=Blk.new (w.alloc (Obj.cells a.cells 46)) 46 b.cells;simpa using this
 have hbW:Wx w ((w.alloc (Obj.cells a.cells 46)).alloc (Obj.cells b.cells 46)):=((AC _ _).alloc (AB _) _).alloc (by simp) _;have x0:=a.row_parent hA;have y0:=b.row_parent hB;go_enter func109,ntmps109;go_wp2_with fail
 refine(FD a.parent b.parent _).mono ?_;rintro en w2 ⟨rfl,hb2⟩;go_wp2;go_ret;exact⟨by rw[Hr.out];rfl,hbW.trans (hb2.mono hbW.size)⟩
theorem SZ(a b:Vt)(w:World)(hp:a.parent=b.parent):Calls prog 109 #[a.val,b.val] w (An w (Bf a b)):=by
 have e1:∀W,(Op.equalIn 10000 24 a.parent.val b.parent.val).run prog W= .ok true W:=fun W=>by
  have:=EW a.parent b.parent W 9998;rwa[decide_eq_true hp]at this
 have Hp:=AA hp;clear hp;have hA:Blk ((w.alloc (Obj.cells a.cells 46)).alloc (Obj.cells b.cells 46)) w.heap.size 46 a.cells:=(Blk.new w _ _).alloc _;have hB:Blk ((w.alloc (Obj.cells a.cells 46)).alloc (Obj.cells b.cells 46)) (w.heap.size+1) 46 b.cells:=by
  have:=Blk.new (w.alloc (Obj.cells a.cells 46)) 46 b.cells;simpa using this
 have hbW:Wx w ((w.alloc (Obj.cells a.cells 46)).alloc (Obj.cells b.cells 46)):=((AC _ _).alloc (AB _) _).alloc (by simp) _;have x0:=a.row_parent hA;have y0:=b.row_parent hB;clear hA hB hbW;go_enter func109,ntmps109;go_wp2_with fail
 clear x0 y0 e1;have hA:Blk ((((w.alloc (Obj.cells a.cells 46)).alloc (Obj.cells b.cells 46)).alloc (Obj.cells #[I a.slot,I a.round,I a.kind,I a.signer,I a.choice] 206)).alloc (Obj.cells #[I b.slot,I b.round,I b.kind,I b.signer,I b.choice] 206)) w.heap.size 46 a.cells:=(((Blk.new w _ _).alloc _).alloc _).alloc _;have hB:Blk ((((w.alloc (Obj.cells a.cells 46)).alloc (Obj.cells b.cells 46)).alloc (Obj.cells #[I a.slot,I a.round,I a.kind,I a.signer,I a.choice] 206)).alloc (Obj.cells #[I b.slot,I b.round,I b.kind,I b.signer,I b.choice] 206)) (w.heap.size+1) 46 b.cells:=by
  have:=((Blk.new (w.alloc (Obj.cells a.cells 46)) 46 b.cells).alloc (Obj.cells #[I a.slot,I a.round,I a.kind,I a.signer,I a.choice] 206)).alloc (Obj.cells #[I b.slot,I b.round,I b.kind,I b.signer,I b.choice] 206);simpa using this
 have hX:Blk ((((w.alloc (Obj.cells a.cells 46)).alloc (Obj.cells b.cells 46)).alloc (Obj.cells #[I a.slot,I a.round,I a.kind,I a.signer,I a.choice] 206)).alloc (Obj.cells #[I b.slot,I b.round,I b.kind,I b.signer,I b.choice] 206)) (w.heap.size+1+1) 206 #[I a.slot,I a.round,I a.kind,I a.signer,I a.choice]:=by
  have:=(Blk.new ((w.alloc (Obj.cells a.cells 46)).alloc (Obj.cells b.cells 46)) 206 #[I a.slot,I a.round,I a.kind,I a.signer,I a.choice]).alloc (Obj.cells #[I b.slot,I b.round,I b.kind,I b.signer,I b.choice] 206);simpa using this
 have hY:Blk ((((w.alloc (Obj.cells a.cells 46)).alloc (Obj.cells b.cells 46)).alloc (Obj.cells #[I a.slot,I a.round,I a.kind,I a.signer,I a.choice] 206)).alloc (Obj.cells #[I b.slot,I b.round,I b.kind,I b.signer,I b.choice] 206)) (w.heap.size+1+1+1) 206 #[I b.slot,I b.round,I b.kind,I b.signer,I b.choice]:=by
  have:=Blk.new (((w.alloc (Obj.cells a.cells 46)).alloc (Obj.cells b.cells 46)).alloc (Obj.cells #[I a.slot,I a.round,I a.kind,I a.signer,I a.choice] 206)) 206 #[I b.slot,I b.round,I b.kind,I b.signer,I b.choice];simpa using this
 have hbW:Wx w ((((w.alloc (Obj.cells a.cells 46)).alloc (Obj.cells b.cells 46)).alloc (Obj.cells #[I a.slot,I a.round,I a.kind,I a.signer,I a.choice] 206)).alloc (Obj.cells #[I b.slot,I b.round,I b.kind,I b.signer,I b.choice] 206)):=((((AC _ _).alloc (AB _) _).alloc (by simp) _).alloc (by simp;omega) _).alloc (by simp;omega) _;generalize ((((w.alloc (Obj.cells a.cells 46)).alloc (Obj.cells b.cells 46)).alloc (Obj.cells #[I a.slot,I a.round,I a.kind,I a.signer,I a.choice] 206)).alloc (Obj.cells #[I b.slot,I b.round,I b.kind,I b.signer,I b.choice] 206))=W at*
 go_loopw [40] (fun i wr=>∃k n:Nat,k<=5/\i= .int .i64 k/\wr=W.drewN n/\∀j,j<k->(D7 a).getD j 0=(D7 b).getD j 0) (fun i _=>5-(intOf i).toNat)
 case atStart=>exact⟨0,0,by omega,rfl,rfl,fun j hj=>by omega⟩
 case round=>
  obtain⟨k,n,hk,rfl,rfl,heq⟩:=hrel;have Heq:=AA heq;clear heq;by_cases hlt:k<5
  ·have c1:W.cell? ⟨w.heap.size+1+1,k,none⟩=some (I ((D7 a).getD k 0)):=(hX.cell k).trans (LD a k hlt);have c2:W.cell? ⟨w.heap.size+1+1+1,k,none⟩=some (I ((D7 b).getD k 0)):=(hY.cell k).trans (LD b k hlt);have i1:(0:Int)<=(k:Int):=by omega
   have i2:(k:Int)<5:=by omega
   by_cases hne:(D7 a).getD k 0=(D7 b).getD k 0
   ·have E:Hid (∀j,j<k+1->(D7 a).getD j 0=(D7 b).getD j 0):=fun j hj=>by
     rcases Nat.lt_or_ge j k with h|h
     ·exact Heq.out j h
     ·obtain rfl:j=k:=by omega
      exact hne
    have hb:(((D7 a).getD k 0) !=((D7 b).getD k 0))=false:=by rw[hne];exact bne_self_eq_false _
    clear hne;generalize (D7 a).getD k 0=x at*;generalize (D7 b).getD k 0=y at*;go_wp2
    go_quiet (fail)
    go_wp2;go_roundw
    case rel=>exact⟨k+1,_,by omega,by go_num,rfl,E.out⟩
    case measure=>simp[intOf];omega
   ·have hr:=SX a b k hlt Hp.out Heq.out hne;have Hr:=AA hr;have hb:(((D7 a).getD k 0) !=((D7 b).getD k 0))=true:=by simpa using hne
    clear hne hr;generalize (D7 a).getD k 0=x at*;generalize (D7 b).getD k 0=y at*;go_wp2
    go_quiet (fail)
    go_wp2
    go_quiet (fail)
    go_wp2;go_ret;exact⟨by rw[Hr.out];rfl,BJ (BJ (BJ hbW _) _) _⟩
  ·obtain rfl:k=5:=by omega
   have hr:=Qf a b Hp.out Heq.out;have x0:=a.row_value hA;have y0:=b.row_value hB;have s1:W.cell? ⟨w.heap.size,5,none⟩=some (I a.support):=hA.cell 5;have s2:W.cell? ⟨w.heap.size+1,5,none⟩=some (I b.support):=hB.cell 5;by_cases hv:a.value=b.value
   ·have e2:∀W,(Op.equalIn 10000 24 a.value.val b.value.val).run prog W= .ok true W:=fun W=>by
     have:=EW a.value b.value W 9998;rwa[decide_eq_true hv]at this
    rw[if_pos hv]at hr;have Hr:=AA hr;clear hr hv;go_wp2;go_ret;exact⟨by rw[Hr.out];rfl,BJ hbW _⟩
   ·have e2:∀W,(Op.equalIn 10000 24 a.value.val b.value.val).run prog W= .ok false W:=fun W=>by
     have:=EW a.value b.value W 9998;rwa[decide_eq_false hv]at this
    rw[if_neg hv]at hr;have Hr:=AA hr;clear hr hv;go_wp2_with fail
    refine(FD a.value b.value _).mono ?_;rintro en w2 ⟨rfl,hb2⟩;have hbw:=BJ hbW n;go_wp2;go_ret;exact⟨by rw[Hr.out];rfl,hbw.trans (hb2.mono hbw.size)⟩
theorem LE(a b:Vt)(w:World):Calls prog 109 #[a.val,b.val] w (An w (Bf a b)):=by
 by_cases hp:a.parent=b.parent
 ·exact SZ a b w hp
 ·exact SY a b w hp
end
section

section
variable {α:Type}
def seg(l:List α)(s e:Nat):List α:=(l.take e).drop s
def CV(l:List α)(i j:Nat):List α:=match l[i]?,l[j]? with
 |some x,some y=>(l.set i y).set j x
 |_,_=>l
theorem Ly(l:List α)(i j:Nat):(CV l i j).length=l.length:=by
 unfold CV;split <;> simp
theorem GU(P M S:List α)(x y:α):CV (P++x::(M++y::S)) P.length (P.length+1+M.length)=P++y::(M++x::S):=by
 have h1:(P++x::(M++y::S))[P.length]? =some x:=by simp
 have h2:(P++x::(M++y::S))[P.length+1+M.length]? =some y:=by
  rw[List.getElem?_append_right (by omega),show P.length+1+M.length-P.length=M.length+1 from by omega];simp
 unfold CV;rw[h1,h2];show(List.set (List.set _ _ _) _ _)=_;rw[List.set_append_right _ _ (AB _),Nat.sub_self,List.set_cons_zero,List.set_append_right _ _ (by omega),show P.length+1+M.length-P.length=M.length+1 from by omega,List.set_cons_succ,
  List.set_append_right _ _ (AB _),Nat.sub_self,List.set_cons_zero]
theorem KD(l:List α)(i j:Nat):CV l i j=CV l j i:=by
 unfold CV;rcases hi:l[i]? with _|x <;> rcases hj:l[j]? with _|y <;> simp only[]
 by_cases h:i=j
 ·subst h;rw[hi]at hj;cases hj;rfl
 ·rw[List.set_comm _ _ h]
theorem OC(P M S:List α)(x y:α):CV (P++x::(M++y::S)) (P.length+1+M.length) P.length=P++y::(M++x::S):=by
 rw[KD,GU]
theorem OE(P S:List α)(x y:α):CV (P++x::y::S) P.length (P.length+1)=P++y::x::S:=GU P [] S x y
theorem KE(P S:List α)(x y:α):CV (P++x::y::S) (P.length+1) P.length=P++y::x::S:=OC P [] S x y
structure CG (l l':List α)(a b:Nat):Prop where
 pre:l'.take a=l.take a
 suf:l'.drop b=l.drop b
 perm:l'.Perm l
theorem CG.refl(l:List α)(a b:Nat):CG l l a b:=⟨rfl,rfl,List.Perm.refl _⟩
theorem CG.len{l l':List α}{a b:Nat}(h:CG l l' a b):l'.length=l.length:=h.perm.length_eq
theorem CG.wider{l l':List α}{a b a' b':Nat}(h:CG l l' a b)(ha:a'<=a)(hb:b<=b'):CG l l' a' b':=by
 refine⟨?_,?_,h.perm⟩
 ·have:=congrArg (List.take a') h.pre;rwa[List.take_take,List.take_take,Nat.min_eq_left ha]at this
 ·have:=congrArg (List.drop (b'-b)) h.suf;rwa[List.drop_drop,List.drop_drop,Nat.add_sub_cancel' hb]at this
theorem CG.trans{l l' l'':List α}{a b:Nat}(h:CG l l' a b)(h':CG l' l'' a b):CG l l'' a b:=⟨h'.pre.trans h.pre,h'.suf.trans h.suf,h'.perm.trans h.perm⟩
theorem CG.seg_lo{l l':List α}{a b s e:Nat}(h:CG l l' a b)(he:e<=a):seg l' s e=seg l s e:=by
 unfold seg;have:=congrArg (List.take e) h.pre;rw[List.take_take,List.take_take,Nat.min_eq_left he]at this;rw[this]
theorem CG.seg_hi{l l':List α}{a b s e:Nat}(h:CG l l' a b)(hs:b<=s):seg l' s e=seg l s e:=by
 unfold seg;rw[List.drop_take,List.drop_take];have:=congrArg (List.drop (s-b)) h.suf;rw[List.drop_drop,List.drop_drop,Nat.add_sub_cancel' hs]at this;rw[this]
theorem JK{P X X' S:List α}{a b:Nat}(ha:P.length=a)(hb:P.length+X.length=b)(hp:X'.Perm X):CG (P++(X++S)) (P++(X'++S)) a b:=by
 subst ha;subst hb;refine⟨by simp,?_,(hp.append_right S).append_left P⟩;have h1:List.drop (P.length+X.length) (P++(X++S))=S:=by rw[<-List.drop_drop,List.drop_left,List.drop_left]
 have h2:List.drop (P.length+X.length) (P++(X'++S))=S:=by rw[<-List.drop_drop,List.drop_left,<-hp.length_eq,List.drop_left]
 rw[h1,h2]
theorem IE{P X S:List α}{a b:Nat}(ha:P.length=a)(hb:P.length+X.length=b):seg (P++(X++S)) a b=X:=by
 subst ha;subst hb;unfold seg;rw[<-List.append_assoc,List.take_append_of_le_length (by simp),AT (by simp),List.drop_left]
theorem GV(l:List α){a b:Nat}(hab:a<=b)(hb:b<=l.length):l=l.take a++(seg l a b++l.drop b)/\(l.take a).length=a/\(l.take a).length+(seg l a b).length=b:=by
 refine⟨?_,by rw[AZ];omega,by unfold seg;rw[List.length_drop,AZ,AZ];omega⟩;unfold seg;have h1:l.take b=(l.take b).take a++(l.take b).drop a:=(Aj _ _).symm;rw[List.take_take,Nat.min_eq_left hab]at h1;rw[<-List.append_assoc,<-h1,Aj]
theorem DI(l:List α){a m b:Nat}(ham:a<=m)(hmb:m<=b):seg l a b=seg l a m++seg l m b:=by
 unfold seg;rw[List.drop_take,List.drop_take,List.drop_take,show b-a=(m-a)+(b-m)from by omega,List.take_add,List.drop_drop,Nat.add_sub_cancel' ham]
theorem Ef(l:List α){a b i:Nat}(hi:a+i<b):(seg l a b)[i]? =l[a+i]?:=by
 unfold seg;rw[List.getElem?_drop,BT,if_pos hi]
theorem Ca(l:List α){a b:Nat}(hb:b<=l.length):(seg l a b).length=b-a:=by
 unfold seg;rw[List.length_drop,AZ,Nat.min_eq_left hb]
theorem B4(l:List α){a b:Nat}(h:l.length<=a∨b<=a):seg l a b=[]:=by
 unfold seg;apply List.drop_eq_nil_of_le;rw[AZ];omega
theorem Dk(l:List α){a b:Nat}(h:l.length<=b):seg l a b=seg l a l.length:=by
 unfold seg;rw[AT h,List.take_length]
end
structure Ord {α:Type}(lt:α->α->Bool):Prop where
 asymm:∀x y,lt x y=true->lt y x=false
 trans:∀x y z,lt y x=false->lt z y=false->lt z x=false
section
variable {α:Type}{lt:α->α->Bool}
def Asc(lt:α->α->Bool)(l:List α):Prop:=l.Pairwise fun x y=>lt y x=false
theorem Ord.irrefl(h:Ord lt)(x:α):lt x x=false:=by
 cases hx:lt x x with
 |false=>rfl
 |true=>have:=h.asymm x x hx;rw[hx]at this;cases this
theorem Asc.nil:Asc lt []:=List.Pairwise.nil
theorem Asc.one(x:α):Asc lt [x]:=List.pairwise_singleton _ _
theorem DE{a b:List α}:Asc lt (a++b)↔Asc lt a/\Asc lt b/\∀x∈a,∀y∈b,lt y x=false:=List.pairwise_append
theorem Asc.get{l:List α}(h:Asc lt l){i j:Nat}{x y:α}(hij:i<j)(hx:l[i]? =some x)(hy:l[j]? =some y):lt y x=false:=by
 obtain⟨hi,rfl⟩:=AF.1 hx;obtain⟨hj,rfl⟩:=AF.1 hy;exact List.pairwise_iff_getElem.1 h i j hi hj hij
theorem Asc.last_le(ho:Ord lt){l:List α}{x y:α}(h:Asc lt (l++[x]))(hxy:lt y x=false):∀z∈l++[x],lt y z=false:=by
 intro z hz;rcases AP.1 hz with hz|hz
 ·exact ho.trans z x y ((DE.1 h).2.2 z hz x (by simp)) hxy
 ·rw[AM.1 hz];exact hxy
theorem Asc.upto(ho:Ord lt){l:List α}{i:Nat}{x y:α}(h:Asc lt l)(hx:l[i]? =some x)(hxy:lt y x=false):∀z∈l.take (i+1),lt y z=false:=by
 intro z hz;obtain⟨k,hk⟩:=List.mem_iff_getElem?.1 hz;rw[BT]at hk;split at hk
 ·rename_i hki
  rcases Nat.lt_or_ge k i with hlt|hge
  ·exact ho.trans z x y (h.get hlt hk hx) hxy
  ·obtain rfl:k=i:=by omega
   rw[hk]at hx;cases hx;exact hxy
 ·cases hk
theorem Asc.since(ho:Ord lt){l:List α}{i:Nat}{x y:α}(h:Asc lt l)(hx:l[i]? =some x)(hxy:lt x y=false):∀z∈l.drop i,lt z y=false:=by
 intro z hz;obtain⟨k,hk⟩:=List.mem_iff_getElem?.1 hz;rw[List.getElem?_drop]at hk;rcases Nat.eq_zero_or_pos k with h0|h0
 ·subst h0;rw[Nat.add_zero,hx]at hk;cases hk;exact hxy
 ·exact ho.trans y x z hxy (h.get (by omega) hx hk)
theorem Asc.take{l:List α}(h:Asc lt l)(k:Nat):Asc lt (l.take k):=List.Pairwise.sublist (List.take_sublist k l) h
theorem Asc.drop{l:List α}(h:Asc lt l)(k:Nat):Asc lt (l.drop k):=List.Pairwise.sublist (List.drop_sublist k l) h
theorem Gr{a b:List α}{x:α}(h:Asc lt (a++b))(ha:∀z∈a,lt x z=false)(hb:∀z∈b,lt z x=false):Asc lt (a++x::b):=by
 obtain⟨h1,h2,h3⟩:=DE.1 h;refine DE.2 ⟨h1,List.pairwise_cons.2 ⟨hb,h2⟩,fun z hz y hy=>?_⟩;rcases List.mem_cons.1 hy with rfl|hy
 ·exact ha z hz
 ·exact h3 z hz y hy
def Er(lt:α->α->Bool)(bs:Nat)(l:List α):Prop:=∀t,Asc lt (seg l (t*bs) ((t+1)*bs))
theorem Er.all{bs:Nat}{l:List α}(h:Er lt bs l)(hb:l.length<=bs):Asc lt l:=by
 have:=h 0;rw[Nat.zero_mul,Nat.zero_add,Nat.one_mul,Dk l hb]at this;unfold seg at this;simpa using this
end
section
variable {α:Type}{lt:α->α->Bool}
theorem CG.seg_perm{l l':List α}{a b:Nat}(h:CG l l' a b)(hab:a<=b)(hb:b<=l.length):(seg l' a b).Perm (seg l a b):=by
 obtain⟨e,_,_⟩:=GV l hab hb;obtain⟨e',_,_⟩:=GV l' hab (by rw[h.len];exact hb);have hp:=h.perm;rw[e,e',h.pre,h.suf]at hp;exact(List.perm_append_right_iff _).1 ((List.perm_append_left_iff _).1 hp)
theorem Sa{l l1 l2 l3:List α}{a s m mid e b:Nat}(has:a<=s)(hsm:s<=m)(hme:m<=e)(heb:e<=b)(hbl:b<=l.length)(hmid:mid+m=s+e)(hX:Asc lt (seg l a m))(hY:Asc lt (seg l m b))(F1:∀x∈seg l a s,∀y∈seg l e b,lt y x=false)(F2:∀x∈seg l m e,∀y∈seg l s m,lt y x=false)(k1:CG l l1 s e)(q1:seg l1 s mid=seg l m e)(q2:seg l1 mid e=seg l s m)(k2:CG l1 l2 a mid)(z2:Asc lt (seg l2 a mid))(k3:CG l2 l3 mid b)(z3:Asc lt (seg l3 mid b)):CG l l3 a b/\Asc lt (seg l3 a b):=by
 have b1:s<=mid:=by omega
 have b2:mid<=e:=by omega
 refine⟨((k1.wider has heb).trans (k2.wider (AB _) (by omega))).trans (k3.wider (by omega) (AB _)),?_⟩;have p1:(seg l3 a mid).Perm (seg l a s++seg l m e):=by
  rw[k3.seg_lo (AB _)];refine(k2.seg_perm (by omega) (by rw[k1.len];omega)).trans ?_;rw[DI l1 has b1,k1.seg_lo (AB _),q1]
 have p2:(seg l3 mid b).Perm (seg l s m++seg l e b):=by
  refine(k3.seg_perm (by omega) (by rw[k2.len,k1.len];omega)).trans ?_;rw[k2.seg_hi (AB _),DI l1 b2 heb,q2,k1.seg_hi (AB _)]
 rw[DI l has hsm]at hX;rw[DI l hme heb]at hY;rw[DI l3 (show a<=mid by omega) (show mid<=b by omega)];refine DE.2 ⟨by rw[k3.seg_lo (AB _)];exact z2,z3,fun x hx y hy=>?_⟩;rcases AP.1 (p1.mem_iff.1 hx)with hx|hx <;> rcases AP.1 (p2.mem_iff.1 hy)with hy|hy
 ·exact(DE.1 hX).2.2 x hx y hy
 ·exact F1 x hx y hy
 ·exact F2 x hx y hy
 ·exact(DE.1 hY).2.2 x hx y hy
theorem VX(ho:Ord lt){l:List α}{a s m e b:Nat}{x y:α}(hm:s<m+1)(hme:m<=e)(hX:Asc lt (seg l a m))(hY:Asc lt (seg l m b))(has:a+1<=s)(heb:e<b)(hx:l[s-1]? =some x)(hy:l[e]? =some y)(h:lt y x=false):∀u∈seg l a s,∀v∈seg l e b,lt v u=false:=by
 intro u hu v hv;have e1:seg l a s=(seg l a m).take (s-1-a+1):=by
  unfold seg;rw[List.drop_take,List.drop_take,List.take_take];congr 1;omega
 have e2:seg l e b=(seg l m b).drop (e-m):=by
  unfold seg;rw[List.drop_drop];congr 1;omega
 rw[e1]at hu;rw[e2]at hv;have h1:=hX.upto ho (i:=s-1-a) (x:=x) (y:=y) (by rw[Ef l (by omega),<-hx];congr 1;omega) h u hu;have h2:=hY.since ho (i:=e-m) (x:=y) (y:=y) (by rw[Ef l (by omega),<-hy];congr 1;omega) (ho.irrefl y) v hv;exact ho.trans u y v h1 h2
theorem VY(ho:Ord lt){l:List α}{a s m e b:Nat}{x y:α}(hsm:s<m)(hme:m<e)(has:a<=s)(heb:e<=b)(hX:Asc lt (seg l a m))(hY:Asc lt (seg l m b))(hx:l[s]? =some x)(hy:l[e-1]? =some y)(h:lt y x=true):∀u∈seg l m e,∀v∈seg l s m,lt v u=false:=by
 intro u hu v hv;have e1:seg l m e=(seg l m b).take (e-1-m+1):=by
  unfold seg;rw[List.drop_take,List.drop_take,List.take_take];congr 1;omega
 have e2:seg l s m=(seg l a m).drop (s-a):=by
  unfold seg;rw[List.drop_drop];congr 1;omega
 rw[e1]at hu;rw[e2]at hv;have h1:=hY.upto ho (i:=e-1-m) (x:=y) (y:=y) (by rw[Ef l (by omega),<-hy];congr 1;omega) (ho.irrefl y) u hu;have h2:=hX.since ho (i:=s-a) (x:=x) (y:=y) (by rw[Ef l (by omega),<-hx];congr 1;omega) (ho.asymm _ _ h) v hv;exact ho.trans u y v h1 h2
theorem Qg(ho:Ord lt){P S Y:List α}{x:α}{a b i:Nat}(ha:P.length=a)(hb:a+1+Y.length=b)(hY:Asc lt Y)(hi:i<=Y.length)(h1:i=0∨∃u,Y[i-1]? =some u/\lt u x=true)(h2:i=Y.length∨∃u,Y[i]? =some u/\lt u x=false):CG (P++(x::Y++S)) (P++((Y.take i++x::Y.drop i)++S)) a b/\Asc lt (seg (P++((Y.take i++x::Y.drop i)++S)) a b):=by
 have hp:(Y.take i++x::Y.drop i).Perm (x::Y):=by
  refine List.perm_middle.trans ?_;rw[Aj]
 refine⟨JK ha (by rw[ha,Ag];omega) hp,?_⟩;rw[IE ha (by rw[ha,hp.length_eq,Ag];omega)];refine Gr (by rw[Aj];exact hY) ?_ ?_
 ·rcases h1 with rfl|⟨u,hu,hlt⟩
  ·intro z hz;simp at hz
  ·rcases Nat.eq_zero_or_pos i with h0|h0
   ·subst h0;intro z hz;simp at hz
   ·have:=hY.upto ho hu (ho.asymm _ _ hlt);rwa[show i-1+1=i from by omega]at this
 ·rcases h2 with rfl|⟨u,hu,hlt⟩
  ·intro z hz;simp at hz
  ·exact hY.since ho hu hlt
theorem Sb(ho:Ord lt){P S X:List α}{y:α}{a b i:Nat}(ha:P.length=a)(hb:a+X.length+1=b)(hX:Asc lt X)(hi:i<=X.length)(h1:i=0∨∃u,X[i-1]? =some u/\lt y u=false)(h2:i=X.length∨∃u,X[i]? =some u/\lt y u=true):CG (P++((X++[y])++S)) (P++((X.take i++y::X.drop i)++S)) a b/\Asc lt (seg (P++((X.take i++y::X.drop i)++S)) a b):=by
 have hp:(X.take i++y::X.drop i).Perm (X++[y]):=by
  refine List.perm_middle.trans ?_;rw[Aj];exact(List.perm_append_singleton y X).symm
 refine⟨JK ha (by rw[ha,AI,List.length_singleton];omega) hp,?_⟩;rw[IE ha (by rw[ha,hp.length_eq,AI,List.length_singleton];omega)];refine Gr (by rw[Aj];exact hX) ?_ ?_
 ·rcases h1 with rfl|⟨u,hu,hlt⟩
  ·intro z hz;simp at hz
  ·rcases Nat.eq_zero_or_pos i with h0|h0
   ·subst h0;intro z hz;simp at hz
   ·have:=hX.upto ho hu hlt;rwa[show i-1+1=i from by omega]at this
 ·rcases h2 with rfl|⟨u,hu,hlt⟩
  ·intro z hz;simp at hz
  ·exact hX.since ho hu (ho.asymm _ _ hlt)
theorem Er.twice{bs k:Nat}{l:List α}(hlo:∀t,t<k->Asc lt (seg l (t*(2*bs)) ((t+1)*(2*bs))))(hHS:Asc lt (seg l (k*(2*bs)) ((k+1)*(2*bs))))(hDE:l.length<(k+1)*(2*bs)):Er lt (2*bs) l:=by
 intro t;rcases Nat.lt_trichotomy t k with h|h|h
 ·exact hlo t h
 ·subst h;exact hHS
 ·have h2:(k+1)*(2*bs)<=t*(2*bs):=Nat.mul_le_mul_right _ h;rw[B4 l (.inl (by omega))];exact Asc.nil
end
end
section
open Go.RowKit
section
variable {α:Type}{c:α->List Value}{t:TypeId}{w0 w w':World}{g:Nat}{l l':List α}
structure Row (c:α->List Value)(t:TypeId)(w0:World)(g:Nat)(l:List α)(w:World):Prop where
 blk:Blk w g t (l.flatMap c).toArray
 kept:w0.grownBy w (some g)
theorem Row.self(h:Blk w g t (l.flatMap c).toArray):Row c t w g l w:=⟨h,Al w g⟩
theorem Row.trans(h:Row c t w0 g l w)(h':Row c t w g l' w'):Row c t w0 g l' w':=⟨h'.blk,h.kept.trans h'.kept⟩
theorem Row.alloc(h:Row c t w0 g l w)(o:Obj):Row c t w0 g l (w.alloc o):=⟨h.blk.alloc o,Bm h.kept o⟩
theorem Row.below(h:Row c t w0 g l w)(hb:Wx w w'):Row c t w0 g l w':=
 ⟨h.blk.below hb h.blk.lt,h.kept.trans ⟨hb.os,hb.tape,hb.output,hb.size,fun i hi _=>hb.block i hi⟩⟩
theorem Eg(w:World)(o:Obj)(row:Option Nat):w.grownBy (w.alloc o) row:=⟨rfl,rfl,rfl,by simp,fun i hi _=>Below.heap_alloc w o i hi⟩
theorem Row.off{o:Obj}(h:Row c t (w.alloc o) g l' w'):Row c t w g l' w':=⟨h.blk,(Eg w o (some g)).trans h.kept⟩
theorem Row.box{k:Nat}{tb:TypeId}{cs:Array Value}(h:Row c t w0 g l w)(hB:Blk w0 k tb cs)(hk:k≠g):Blk w k tb cs:=hB.kept h.kept (by simpa using hk)
def EO(c:α->List Value)(t:TypeId)(w0:World)(g:Nat)(l0:List α)(lt:α->α->Bool)(f:Nat)(lb:Array Value):Prop:=
 ∀(W:World) (l:List α) (i j:Nat) (x y:α),Row c t w0 g l W->l.Perm l0->l[i]? =some x->l[j]? =some y->
  Calls prog f (#[.int .i64 (i:Int),.int .i64 (j:Int)]++lb) W fun e w'=>e= .returned (.bool (lt x y))/\Wx W w'
def Es(c:α->List Value)(t:TypeId)(w0:World)(g n:Nat)(f:Nat)(sb:Array Value):Prop:=
 ∀(W:World) (l:List α) (i j:Nat),Row c t w0 g l W->l.length=n->i<n->j<n->i≠j->
  ∃W',(callFunc f (#[.int .i64 (i:Int),.int .i64 (j:Int)]++sb)).run prog W= .ok (.value (.tuple #[])) W'/\Row c t W g (CV l i j) W'
theorem EO.later{l0:List α}{lt:α->α->Bool}{f:Nat}{lb:Array Value}(h:EO c t w0 g l0 lt f lb)(hw:w0.grownBy w (some g)):EO c t w g l0 lt f lb:=
 fun W l i j x y hr hp hx hy=>h W l i j x y ⟨hr.blk,hw.trans hr.kept⟩ hp hx hy
end
theorem DS(g t:Nat):∀(vs:List Value) (s:Nat) (w:World) (cs:List Value),Blk w g t cs.toArray->s+vs.length<=cs.length->
  Blk (w.setCells g s vs) g t (cs.take s++vs++cs.drop (s+vs.length)).toArray/\w.grownBy (w.setCells g s vs) (some g)
 |[],s,w,cs,h,_=>by
  refine⟨?_,Al w g⟩;rw[World.setCells,List.append_nil,List.length_nil,Nat.add_zero,Aj];exact h
 |v::r,s,w,cs,h,hl=>by
  rw[Ag]at hl;have h1:Blk (w.setCell ⟨g,s,none⟩ v) g t (cs.set s v).toArray:=by
   have:=h.put s v;simpa using this
  obtain⟨h2,h3⟩:=DS g t r (s+1) _ _ h1 (by rw[List.length_set];omega);rw[World.setCells];refine⟨?_,(Bl (Al w g) rfl v).trans h3⟩;have e:List.take s cs++v::r++List.drop (s+(v::r).length) cs=List.take (s+1) (cs.set s v)++r++List.drop (s+1+r.length) (cs.set s v):=by
   rw[List.drop_set_of_lt (by omega),Ag,List.take_set,List.take_succ_eq_append_getElem (by omega),List.set_append_right _ _ (by rw[AZ];omega)];simp[AZ,Nat.min_eq_left (show s<=cs.length by omega)];congr 1;omega
  rw[e];exact h2
theorem IF{α:Type}(f:α->List Value)(m:Nat)(l:List α)(hm:∀x∈l,(f x).length=m)(i:Nat)(x:α)(hi:i<l.length):(l.set i x).flatMap f=(l.flatMap f).take (i*m)++f x++(l.flatMap f).drop (i*m+m):=by
 have e1:(l.flatMap f).take (i*m)=(l.take i).flatMap f:=by
  have e:l.flatMap f=(l.take i).flatMap f++(l.drop i).flatMap f:=by rw[<-Af,Aj]
  have hl:((l.take i).flatMap f).length=i*m:=by
   rw[AY f m _ (fun z hz=>hm z (List.mem_of_mem_take hz)),AZ,Nat.min_eq_left (by omega)]
  rw[e,<-hl,List.take_left]
 have e2:(l.flatMap f).drop (i*m+m)=(l.drop (i+1)).flatMap f:=by
  have e:l.flatMap f=(l.take (i+1)).flatMap f++(l.drop (i+1)).flatMap f:=by rw[<-Af,Aj]
  have hl:((l.take (i+1)).flatMap f).length=i*m+m:=by
   rw[AY f m _ (fun z hz=>hm z (List.mem_of_mem_take hz)),AZ,Nat.min_eq_left (by omega),Nat.succ_mul]
  rw[e,<-hl,List.drop_left]
 rw[e1,e2,List.set_eq_take_append_cons_drop,if_pos hi];simp
theorem OF{α:Type}(c:α->List Value)(m:Nat)(t e:TypeId)(w0:World)(g n cap f:Nat)(gS:Bool)(hx:∀args W,(callFunc f args).run prog W=((Extern.ReflectliteSwapper.swap gS args).run prog W).andThen fun v w'=>.ok (.value v) w')(ie:TypeInfo)(hie:prog.info? e=some ie)(hsz:ie.size=m)(hagg:∀w,(isAgg e).run prog w= .ok true w)(hm:∀x,(c x).length=m)(h1:∀x,∀v∈c x,v.oneCell'=true):Es c t w0 g n f #[.slice (some ⟨g,0,none⟩) n cap,typeHandle prog e]:=by
 intro W l i j hr hn hi hj _;subst hsz;obtain⟨x,hx1⟩:∃x,l[i]? =some x:=⟨_,AE (by omega)⟩;obtain⟨y,hy1⟩:∃y,l[j]? =some y:=⟨_,AE (by omega)⟩;have xQ:∀(l:List α),(l.flatMap c).length=l.length*ie.size:=fun l=>AY c ie.size l (fun x _=>hm x)
 have cell:∀(k u:Nat) (z:α) (v:Value),l[k]? =some z->(c z)[u]? =some v->W.cell? ⟨g,0+k*ie.size+u,none⟩=some v:=by
  intro k u z v hz hv;rw[hr.blk.cell,Nat.zero_add];have:=CN c ie.size l (fun x _=>hm x) k u z hz (by rw[<-hm z];exact(AF.1 hv).1);rw[List.getElem?_toArray,this,hv]
 have xK:=Lib.run_swap_cells (P:=prog) gS e ie hie hagg g 0 n cap i j hi hj (c x) (c y) (hm x) (hm y) (h1 x) (h1 y) W (fun u v hv=>cell i u x v hx1 hv) (fun u v hv=>cell j u y v hy1 hv)
  (fun u _=>hr.blk.frozen _) (fun u _=>hr.blk.frozen _)
 have bi:i*ie.size+ie.size<=l.length*ie.size:=by
  have:=Nat.mul_le_mul_right ie.size (show i+1<=l.length by omega);rwa[Nat.succ_mul]at this
 have bj:j*ie.size+ie.size<=l.length*ie.size:=by
  have:=Nat.mul_le_mul_right ie.size (show j+1<=l.length by omega);rwa[Nat.succ_mul]at this
 obtain⟨b1,k1⟩:=DS g t (c y) (i*ie.size) W (l.flatMap c) hr.blk (by rw[hm,xQ];exact bi);rw[hm,<-IF c ie.size l (fun x _=>hm x) i y (by omega)]at b1;obtain⟨b2,k2⟩:=DS g t (c x) (j*ie.size) _ ((l.set i y).flatMap c) b1 (by rw[hm,xQ,List.length_set];exact bj);rw[hm,<-IF c ie.size _ (fun x _=>hm x) j x (by rw[List.length_set];omega)]at b2;refine⟨_,?_,⟨?_,k1.trans k2⟩⟩
 ·rw[hx,show(#[Value.int .i64 (i:Int),Value.int .i64 (j:Int)]++#[Value.slice (some ⟨g,0,none⟩) n cap,typeHandle prog e])=#[.int .i64 i,.int .i64 j,.slice (some ⟨g,0,none⟩) n cap,typeHandle prog e]from rfl,xK,Nat.zero_add,Nat.zero_add];rfl
 ·unfold CV;rw[hx1,hy1];exact b2
theorem Qh{α:Type}{P X M Y S:List α}{k i:Nat}(hX:X.length=k)(hY:Y.length=k)(hi:i<k):CV (P++(Y.take i++(X.drop i++(M++(X.take i++(Y.drop i++S)))))) (P.length+i) (P.length+k+M.length+i)=P++(Y.take (i+1)++(X.drop (i+1)++(M++(X.take (i+1)++(Y.drop (i+1)++S))))):=by
 have hx:i<X.length:=by omega
 have hy:i<Y.length:=by omega
 rw[List.drop_eq_getElem_cons hx,List.drop_eq_getElem_cons hy,List.take_succ_eq_append_getElem hx,List.take_succ_eq_append_getElem hy];have h:=GU (P++Y.take i) (X.drop (i+1)++(M++X.take i)) (Y.drop (i+1)++S) X[i] Y[i];have e1:(P++Y.take i).length=P.length+i:=by rw[AI,AZ];omega
 have e2:(P++Y.take i).length+1+(X.drop (i+1)++(M++X.take i)).length=P.length+k+M.length+i:=by
  rw[e1];simp only[AI,List.length_drop,AZ];omega
 rw[e2,e1]at h;simp only[List.append_assoc,List.cons_append,List.nil_append]at h ⊢;exact h
section
variable {α:Type}{c:α->List Value}{t:TypeId}{w0:World}{g n f:Nat}{sb:Array Value}
theorem Et(lf:Value)(hsw:Es c t w0 g n f sb)(a b k:Nat)(P X M Y S:List α)(w:World)(xP:Row c t w0 g (P++(X++(M++(Y++S)))) w)(hn:(P++(X++(M++(Y++S)))).length=n)(xR:n<=1000000)(ha:P.length=a)(hX:X.length=k)(hY:Y.length=k)(hb:a+k+M.length=b):Calls prog 272 #[.agg #[lf,.func (.func f) #[] sb],.int .i64 (a:Int),.int .i64 (b:Int),.int .i64 (k:Int)] w fun e w'=>e= .returned (.tuple #[])/\Row c t w g (P++(Y++(M++(X++S)))) w':=by
 have hbig:b+k<=n:=by
  simp only[AI]at hn;omega
 have hab:a+k<=b:=by omega
 have HSw:=AA hsw;clear hsw;have xY:=AA xP;clear xP;have HN:=AA hn;clear hn;have HX:=AA hX;clear hX;have HY:=AA hY;clear hY;have HA:=AA ha;clear ha;have HB:=AA hb;clear hb;have hgw:g<w.heap.size:=xY.out.blk.lt;go_enter func272,ntmps272;go_wp2
 go_loopw [8] (fun iv wr=>∃i:Nat,iv= .int .i64 (i:Int)/\i<=k/\Row c t (w.alloc (.cells #[lf,.func (.func f) #[] sb] 190)) g (P++(Y.take i++(X.drop i++(M++(X.take i++(Y.drop i++S)))))) wr) (fun iv _=>k-(intOf iv).toNat)
 case atStart=>
  refine⟨0,rfl,Nat.zero_le _,?_⟩;have:=Row.self (xY.out.blk.alloc (.cells #[lf,.func (.func f) #[] sb] 190));simpa using this
 case round=>
  obtain⟨i,rfl,hik,hr⟩:=hrel;have HR:=AA hr;clear hr;by_cases hi:i<k
  ·have c1:wr.cell? ⟨w.heap.size,1,none⟩=some (.func (.func f) #[] sb):=(HR.out.box (Blk.new w _ _) (by omega)).cell 1;have xQ:(P++(Y.take i++(X.drop i++(M++(X.take i++(Y.drop i++S)))))).length=n:=by
    rw[<-HN.out];have h1:=HX.out;have h2:=HY.out;simp only[AI,AZ,List.length_drop];omega
   obtain⟨W',xK,yd⟩:=HSw.out wr _ (a+i) (b+i) (xY.out.trans (HR.out.off)) xQ (by omega) (by omega) (by omega);rw[show((a+i:Nat):Int)=(a:Int)+(i:Int)from by omega,show((b+i:Nat):Int)=(b:Int)+(i:Int)from by omega]at xK;have hs:=Qh (P:=P) (X:=X) (M:=M) (Y:=Y) (S:=S) HX.out HY.out hi;rw[HA.out,HB.out]at hs;rw[hs]at yd;have hHT:=AA (HR.out.trans yd);clear hs yd xQ;go_wp2;go_roundw
   case rel=>exact⟨i+1,by go_num,by omega,hHT.out⟩
   case measure=>simp[intOf];omega
  ·obtain rfl:k=i:=by omega
   go_wp2;go_end0;refine⟨rfl,?_⟩;have h:=HR.out.off;rw[AT (Nat.le_of_eq HY.out),List.drop_eq_nil_of_le (Nat.le_of_eq HX.out),AT (Nat.le_of_eq HX.out),List.drop_eq_nil_of_le (Nat.le_of_eq HY.out)]at h;simpa using h
theorem OG(lf:Value)(hsw:Es c t w0 g n f sb)(a m b:Nat)(P X Y S:List α)(w:World)(xP:Row c t w0 g (P++(X++(Y++S))) w)(hn:(P++(X++(Y++S))).length=n)(xR:n<=1000000)(ha:P.length=a)(hm:a+X.length=m)(hb:m+Y.length=b)(hX:0<X.length)(hY:0<Y.length):Calls prog 236 #[.agg #[lf,.func (.func f) #[] sb],.int .i64 (a:Int),.int .i64 (m:Int),.int .i64 (b:Int)] w fun e w'=>e= .returned (.tuple #[])/\Row c t w g (P++(Y++(X++S))) w':=by
 have hbig:b<=n:=by
  simp only[AI]at hn;omega
 have ham:a<=m:=by omega
 have hmb:m<=b:=by omega
 obtain⟨T,hT⟩:=Wr (P++(Y++(X++S)));obtain⟨l,hl⟩:=Wr (P++(X++(Y++S)));have hs0:∃U X' Y' V:List α,((m:Int)-(a:Int))=(X'.length:Int)/\((b:Int)-(m:Int))=(Y'.length:Int)/\0<X'.length/\0<Y'.length/\U.length+X'.length=m/\(U++(X'++(Y'++V))).length=n/\l=U++(X'++(Y'++V))/\U++(Y'++(X'++V))=T:=
  ⟨P,X,Y,S,by omega,by omega,hX,hY,by omega,hn,hl,hT.symm⟩
 rw[<-hl]at xP hn;rw[<-hT];have HSw:=AA hsw;have xY:=AA xP;have HS0:=AA hs0;clear hsw xP hs0 hn hl hT hX hY ha hm hb;have hgw:g<w.heap.size:=xY.out.blk.lt;go_enter func236,ntmps236;go_wp2
 go_loopw [8,9] (fun iv jv wr=>∃(i j:Nat) (U X' Y' V:List α),iv= .int .i64 (i:Int)/\jv= .int .i64 (j:Int)/\X'.length=i/\Y'.length=j/\0<i/\0<j/\U.length+i=m/\(U++(X'++(Y'++V))).length=n/\Row c t (w.alloc (.cells #[lf,.func (.func f) #[] sb] 190)) g (U++(X'++(Y'++V))) wr/\U++(Y'++(X'++V))=T) (fun iv jv _=>(intOf iv).toNat+(intOf jv).toNat)
 case atStart=>
  obtain⟨U,X',Y',V,h1,h2,h3,h4,h5,h6,h7,h8⟩:=HS0.out;refine⟨X'.length,Y'.length,U,X',Y',V,by rw[h1],by rw[h2],rfl,rfl,h3,h4,h5,h6,?_,h8⟩;rw[<-h7];exact Row.self (xY.out.blk.alloc (.cells #[lf,.func (.func f) #[] sb] 190))
 case round=>
  obtain⟨i,j,U,X',Y',V,rfl,rfl,hX,hY,hi,hj,hU,hn,hr,hT⟩:=hrel;have hjb:m+j<=n:=by
   simp only[AI]at hn;omega
  have HB:Hid (Blk wr w.heap.size 190 #[lf,.func (.func f) #[] sb]):=hr.box (Blk.new w _ _) (by omega);have HR:=AA hr;have HT:=AA hT;have HXl:=AA hX;have HYl:=AA hY;have HN:=AA hn;have HU:=AA hU;have hiU:i<=m:=by omega
  clear hr hT hX hY hn hU;have c0:wr.cell? ⟨w.heap.size,0,none⟩=some lf:=HB.out.cell 0;have c1:wr.cell? ⟨w.heap.size,1,none⟩=some (.func (.func f) #[] sb):=HB.out.cell 1;have k1:(m:Int)-(i:Int)=((m-i:Nat):Int):=by omega
  rcases Nat.lt_trichotomy i j with hij|hij|hij
  ·have d1:decide ((i:Int)=(j:Int))=false:=by simp;omega
   have hsp:=Aj (j-i) Y';have hc:=Et lf HSw.out (m-i) (m+j-i) i U X' (Y'.take (j-i)) (Y'.drop (j-i)) V wr
    (by rw[<-List.append_assoc (Y'.take (j-i)),hsp];exact xY.out.trans HR.out.off) (by rw[<-List.append_assoc (Y'.take (j-i)),hsp];exact HN.out) xR
    (by have:=HU.out;omega) HXl.out (by rw[List.length_drop,HYl.out];omega) (by rw[AZ,HYl.out];omega)
   rw[show((m+j-i:Nat):Int)=(m:Int)+(j:Int)-(i:Int)from by omega,show((m-i:Nat):Int)=(m:Int)-(i:Int)from by omega]at hc;have HC:=AA hc;clear hc hsp k1;go_wp2_with (go_at_call 272;refine HC.out.mono ?_;rintro en w2 ⟨rfl,hr2⟩)
   go_roundw
   case rel=>
    refine⟨i,j-i,U,Y'.drop (j-i),Y'.take (j-i),X'++V,rfl,by go_num,by rw[List.length_drop,HYl.out];omega,by rw[AZ,HYl.out];omega,hi,by omega,HU.out,?_,?_,?_⟩
    ·have h:=HN.out;have h2:=HYl.out;simp only[AI,List.length_drop,AZ]at h ⊢;omega
    ·exact HR.out.trans hr2
    ·rw[<-HT.out]
     conv=>rhs;rw[<-Aj (j-i) Y']
     simp only[List.append_assoc]
   case measure=>simp[intOf];omega
  ·subst hij;have hc:=Et lf HSw.out (m-i) m i U X' [] Y' V wr (by rw[List.nil_append];exact xY.out.trans HR.out.off) (by rw[List.nil_append];exact HN.out) xR
    (by have:=HU.out;omega) HXl.out HYl.out (by rw[List.length_nil];omega)
   rw[show((m-i:Nat):Int)=(m:Int)-(i:Int)from by omega]at hc;have HC:=AA hc;clear hc k1;go_wp2_with (go_at_call 272;refine HC.out.mono ?_;rintro en w2 ⟨rfl,hr2⟩)
   go_end0;refine⟨rfl,?_⟩;have h:=(HR.out.trans hr2).off;rw[List.nil_append,HT.out]at h;exact h
  ·have d1:decide ((i:Int)=(j:Int))=false:=by simp;omega
   have hsp:=Aj j X';have hc:=Et lf HSw.out (m-i) m j U (X'.take j) (X'.drop j) Y' V wr
    (by rw[<-List.append_assoc (X'.take j),hsp];exact xY.out.trans HR.out.off) (by rw[<-List.append_assoc (X'.take j),hsp];exact HN.out) xR
    (by have:=HU.out;omega) (by rw[AZ,HXl.out];omega) HYl.out (by rw[List.length_drop,HXl.out];omega)
   rw[show((m-i:Nat):Int)=(m:Int)-(i:Int)from by omega]at hc;have HC:=AA hc;clear hc hsp k1;go_wp2_with (go_at_call 272;refine HC.out.mono ?_;rintro en w2 ⟨rfl,hr2⟩)
   go_roundw
   case rel=>
    refine⟨i-j,j,U++Y',X'.drop j,X'.take j,V,by go_num,rfl,by rw[List.length_drop,HXl.out],by rw[AZ,HXl.out];omega,by omega,hj,?_,?_,?_,?_⟩
    ·have h:=HU.out;have h2:=HYl.out;rw[AI];omega
    ·have h:=HN.out;have h2:=HXl.out;simp only[AI,List.length_drop,AZ]at h ⊢;omega
    ·rw[List.append_assoc];exact HR.out.trans hr2
    ·rw[<-HT.out]
     conv=>rhs;rw[<-Aj j X']
     simp only[List.append_assoc]
   case measure=>simp[intOf];omega
end
section
variable {α:Type}{c:α->List Value}{t:TypeId}{w0:World}{g n f F:Nat}{sb lb:Array Value}{lt:α->α->Bool}{l0:List α}
def Dy(c:α->List Value)(t:TypeId)(g:Nat)(lt:α->α->Bool)(l:List α)(a b:Nat)(w:World)(e:Ending)(w':World):Prop:=
 e= .returned (.tuple #[])/\∃l',Row c t w g l' w'/\CG l l' a b/\Asc lt (seg l' a b)
def DF(lt:α->α->Bool)(l':List α)(a i j:Nat)(lj:List α):Prop:=
 ∃(Q L1 L2 R:List α) (x:α),Q.length=a/\a+L1.length=j/\j+L2.length=i/\l'=Q++((L1++L2)++x::R)/\lj=Q++((L1++x::L2)++R)/\Asc lt (L1++L2)/\∀z∈L2,lt x z=true
theorem DF.start{l':List α}{a i:Nat}(hai:a<=i)(hi:i<l'.length)(hs:Asc lt (seg l' a i)):DF lt l' a i i l':=by
 obtain⟨e,h1,h2⟩:=GV l' hai (Nat.le_of_lt hi);refine⟨l'.take a,seg l' a i,[],l'.drop (i+1),l'[i],h1,by omega,by simp,?_,?_,by simpa using hs,fun z hz=>by cases hz⟩
 ·rw[List.append_nil,<-List.drop_eq_getElem_cons hi];exact e
 ·rw[List.append_assoc,List.cons_append,List.nil_append,<-List.drop_eq_getElem_cons hi];exact e
theorem DF.len{l' lj:List α}{a i j:Nat}(h:DF lt l' a i j lj):lj.length=l'.length/\a<=j/\j<=i/\i<l'.length:=by
 obtain⟨Q,L1,L2,R,x,h1,h2,h3,h4,h5,_,_⟩:=h;rw[h4,h5];simp only[AI,Ag];omega
theorem DF.perm{l' lj:List α}{a i j:Nat}(h:DF lt l' a i j lj):CG l' lj a (i+1):=by
 obtain⟨Q,L1,L2,R,x,h1,h2,h3,h4,h5,_,_⟩:=h;rw[h4,h5];have hp:(L1++x::L2).Perm ((L1++L2)++[x]):=(List.perm_middle).trans (List.perm_append_singleton x (L1++L2)).symm;have e:Q++((L1++L2)++x::R)=Q++(((L1++L2)++[x])++R):=by simp
 rw[e];exact JK h1 (by simp only[AI,Ag,List.length_nil];omega) hp
theorem DF.two{l' lj:List α}{a i j:Nat}(h:DF lt l' a i j lj)(hj:a<j):∃x y,lj[j]? =some x/\lj[j-1]? =some y/\(lt x y=true->DF lt l' a i (j-1) (CV lj j (j-1))):=by
 obtain⟨Q,L1,L2,R,x,h1,h2,h3,h4,h5,h6,h7⟩:=h;obtain⟨L,y,hL⟩:∃L y,L1=L++[y]:=by
  rcases List.eq_nil_or_concat L1 with e|⟨L,y,e⟩
  ·rw[e]at h2;simp at h2;omega
  ·exact⟨L,y,by simpa using e⟩
 subst hL;rw[AI,List.length_singleton]at h2;have e:lj=(Q++L)++y::x::(L2++R):=by rw[h5];simp
 have el:(Q++L).length=j-1:=by rw[AI];omega
 refine⟨x,y,?_,?_,fun hxy=>⟨Q,L,y::L2,R,x,h1,by omega,by rw[Ag];omega,by rw[h4];simp,?_,by simpa using h6,?_⟩⟩
 ·rw[e,List.getElem?_append_right (by omega),el,show j-(j-1)=1 from by omega];rfl
 ·rw[e,List.getElem?_append_right (by omega),el,Nat.sub_self];rfl
 ·have hs:=KE (Q++L) (L2++R) y x;rw[el,show j-1+1=j from by omega,<-e]at hs;rw[hs];simp
 ·intro z hz;rcases List.mem_cons.1 hz with rfl|hz
  ·exact hxy
  ·exact h7 z hz
theorem DF.done(ho:Ord lt){l' lj:List α}{a i j:Nat}(h:DF lt l' a i j lj)(hs:j=a∨∃x y,lj[j]? =some x/\lj[j-1]? =some y/\lt x y=false):Asc lt (seg lj a (i+1)):=by
 obtain⟨Q,L1,L2,R,x,h1,h2,h3,h4,h5,h6,h7⟩:=h;rw[h5,IE h1 (by simp only[AI,Ag];omega)];refine Gr h6 ?_ (fun z hz=>ho.asymm _ _ (h7 z hz));rcases hs with hj|⟨x',y,hx,hy,hxy⟩
 ·have:L1=[]:=AQ (by omega);subst this;intro z hz;cases hz
 ·rcases List.eq_nil_or_concat L1 with e|⟨L,u,e⟩
  ·rw[e];intro z hz;cases hz
  ·have e':L1=L++[u]:=by simpa using e
   subst e';rw[AI,List.length_singleton]at h2;have el:(Q++L).length=j-1:=by rw[AI];omega
   have ej:lj=(Q++L)++u::x::(L2++R):=by rw[h5];simp
   rw[ej,List.getElem?_append_right (by omega),el,show j-(j-1)=1 from by omega]at hx;rw[ej,List.getElem?_append_right (by omega),el,Nat.sub_self]at hy;cases hx;cases hy
   exact Asc.last_le ho (DE.1 h6).1 hxy
theorem Kg(eg:∀args w,(callFunc F args).run prog w= .ok (.enter F args) w)(ho:Ord lt)(hle:EO c t w0 g l0 lt F lb)(hsw:Es c t w0 g n f sb)(a b:Nat)(l:List α)(w:World)(xP:Row c t w0 g l w)(hp:l.Perm l0)(hn:l.length=n)(xR:n<=1000000)(hab:a<=b)(hb:b<=n):Calls prog 179 #[.agg #[.func (.func F) #[] lb,.func (.func f) #[] sb],.int .i64 (a:Int),.int .i64 (b:Int)] w (Dy c t g lt l a b w):=by
 have HO:=AA ho;clear ho;have HLe:=AA hle;clear hle;have HSw:=AA hsw;clear hsw;have xY:=AA xP;clear xP;have HP:=AA hp;clear hp;have HN:=AA hn;clear hn;have hgw:g<w.heap.size:=xY.out.blk.lt;go_enter func179,ntmps179;go_wp2
 go_loopw [6] (fun iv wr=>∃(i:Nat) (l':List α),iv= .int .i64 (i:Int)/\a<i/\(i<=b∨b=a)/\Row c t (w.alloc (.cells #[.func (.func F) #[] lb,.func (.func f) #[] sb] 190)) g l' wr/\CG l l' a b/\Asc lt (seg l' a i)) (fun iv _=>b+1-(intOf iv).toNat)
 case atStart=>
  refine⟨a+1,l,by go_num,by omega,by omega,Row.self (xY.out.blk.alloc _),CG.refl _ _ _,?_⟩;rcases hs:seg l a (a+1)with _|⟨x,_|⟨y,r⟩⟩
  ·exact Asc.nil
  ·exact Asc.one _
  ·have:=congrArg List.length hs;unfold seg at this;rw[List.length_drop,AZ]at this;simp at this;omega
 case round=>
  obtain⟨i,l',rfl,hai,hib,hr,hk,hs⟩:=hrel;have HR:=AA hr;have HK:=AA hk;have HS:=AA hs;clear hr hk hs;by_cases hi:i<b
  ·have di:=Wu (show i<b by omega)
   have HL':Hid (l'.length=n):=HK.out.len.trans HN.out;go_wp2
   go_loopw [7] (fun jv wr=>∃(j:Nat) (lj:List α),jv= .int .i64 (j:Int)/\a<=j/\j<=i/\Row c t (w.alloc (.cells #[.func (.func F) #[] lb,.func (.func f) #[] sb] 190)) g lj wr/\DF lt l' a i j lj) (fun jv _=>(intOf jv).toNat)
   case atStart=>exact⟨i,l',rfl,by omega,by omega,HR.out,DF.start (by omega) (by rw[HL'.out];omega) HS.out⟩
   case round=>
    obtain⟨j,lj,rfl,haj,hji,hr,hBN⟩:=hrel;have hlj:lj.length=n:=hBN.len.1.trans HL'.out;have HLj:=AA hlj;have HI:=AA hBN;have HRj:=AA hr;have c0:wr.cell? ⟨w.heap.size,0,none⟩=some (.func (.func F) #[] lb):=(HRj.out.box (Blk.new w _ _) (by omega)).cell 0;clear hr hBN hlj;have HPj:Hid (lj.Perm l0):=(HI.out.perm.perm.trans HK.out.perm).trans HP.out;have HKj:Hid (CG l lj a b):=HK.out.trans (HI.out.perm.wider (AB _) (by omega));by_cases hja:a<j
    ·have dj:=Wu (show a<j by omega)
     obtain⟨x,y,hx,hy,hAo⟩:=HI.out.two hja;have hl:=fun W (hW:Row c t (w.alloc (.cells #[.func (.func F) #[] lb,.func (.func f) #[] sb] 190)) g lj W)=>HLe.out W lj j (j-1) x y (xY.out.trans hW.off) HPj.out hx hy
     rw[show(((j-1:Nat):Int))=(j:Int)-1 from by omega]at hl;have HL:=AA hl;have HSt:=AA hAo;have HX:=AA hx;have HY:=AA hy;clear hl hAo hx hy;cases hlv:lt x y with
     |true=>
      rw[hlv]at HL;go_wp2_with fail
      refine(HL.out _ HRj.out).mono ?_;rintro e w2 ⟨rfl,hb2⟩;have HR2:=AA (HRj.out.below hb2);have c1:w2.cell? ⟨w.heap.size,1,none⟩=some (.func (.func f) #[] sb):=(HR2.out.box (Blk.new w _ _) (by omega)).cell 1;obtain⟨W3,xK,hAp⟩:=HSw.out w2 lj j (j-1) (xY.out.trans HR2.out.off) HLj.out (by omega) (by omega) (by omega);rw[show(((j-1:Nat):Int))=(j:Int)-1 from by omega]at xK;have HR3:=AA (HR2.out.trans hAp);clear hAp hb2;go_wp2;go_roundw
      case rel=>exact⟨j-1,CV lj j (j-1),by go_num,by omega,by omega,HR3.out,HSt.out hlv⟩
      case measure=>simp[intOf];omega
     |false=>
      rw[hlv]at HL;go_wp2_with fail
      refine(HL.out _ HRj.out).mono ?_;rintro e w2 ⟨rfl,hb2⟩;have HR2:=AA (HRj.out.below hb2);clear hb2;go_wp2;go_roundw
      case rel=>exact⟨i+1,lj,by go_num,by omega,by omega,HR2.out,HKj.out,HI.out.done HO.out (.inr ⟨x,y,HX.out,HY.out,hlv⟩)⟩
      case measure=>simp[intOf];omega
    ·have dj:=Wv (show j<=a by omega)
     go_wp2;go_roundw
     case rel=>exact⟨i+1,lj,by go_num,by omega,by omega,HRj.out,HKj.out,HI.out.done HO.out (.inl (by omega))⟩
     case measure=>simp[intOf];omega
  ·have di:=Wv (show b<=i by omega)
   go_wp2;go_end0;refine⟨rfl,l',HR.out.off,HK.out,?_⟩;rcases Nat.lt_or_ge b i with h|h
   ·rw[B4 l' (.inr (by omega))];exact Asc.nil
   ·have e:b=i:=by omega
    rw[e];exact HS.out
end
end
end Go.Proofs.YtadllffeoibelaaGreat
