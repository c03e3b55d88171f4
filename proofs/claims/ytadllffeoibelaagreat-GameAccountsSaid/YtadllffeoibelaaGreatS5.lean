/-
  Parts of the proof. No condition.
-/
import Derived.Test.YtadllffeoibelaaGreatS1
import Derived.Lib.ReflectliteSwap
import Derived.Deep.DeepCutAuto
import Derived.Shelf.SlSortFuncK.WholeK
import Derived.Sort.OwnSorted
open Go.Proofs.Tryz
namespace Go.Proofs.YtadllffeoibelaaGreat
set_option maxRecDepth 100000
set_option maxHeartbeats 32000000
set_option linter.all false
section

section
variable {α:Type}
def seg(l:List α)(s e:Nat):List α:=(l.take e).drop s
def Ci(l:List α)(i j:Nat):List α:=match l[i]?,l[j]? with
 |some x,some y=>(l.set i y).set j x
 |_,_=>l
theorem M8(l:List α)(i j:Nat):(Ci l i j).length=l.length:=by
 unfold Ci;split <;> simp
theorem Gm(P M S:List α)(x y:α):Ci (P++x::(M++y::S)) P.length (P.length+1+M.length)=P++y::(M++x::S):=by
 have h1:(P++x::(M++y::S))[P.length]? =some x:=by simp
 have h2:(P++x::(M++y::S))[P.length+1+M.length]? =some y:=by
  rw[List.getElem?_append_right (by omega),show P.length+1+M.length-P.length=M.length+1 from by omega];simp
 unfold Ci;rw[h1,h2];show(List.set (List.set _ _ _) _ _)=_;rw[List.set_append_right _ _ (AB _),Nat.sub_self,List.set_cons_zero,List.set_append_right _ _ (by omega),show P.length+1+M.length-P.length=M.length+1 from by omega,List.set_cons_succ,
  List.set_append_right _ _ (AB _),Nat.sub_self,List.set_cons_zero]
theorem K8(l:List α)(i j:Nat):Ci l i j=Ci l j i:=by
 unfold Ci;rcases hi:l[i]? with _|x <;> rcases hj:l[j]? with _|y <;> simp only[]
 by_cases h:i=j
 ·subst h;rw[hi]at hj;cases hj;rfl
 ·rw[List.set_comm _ _ h]
theorem Py(P M S:List α)(x y:α):Ci (P++x::(M++y::S)) (P.length+1+M.length) P.length=P++y::(M++x::S):=by
 rw[K8,Gm]
theorem Pz(P S:List α)(x y:α):Ci (P++x::y::S) P.length (P.length+1)=P++y::x::S:=Gm P [] S x y
theorem LB(P S:List α)(x y:α):Ci (P++x::y::S) (P.length+1) P.length=P++y::x::S:=Py P [] S x y
structure CK (l l':List α)(a b:Nat):Prop where
 pre:l'.take a=l.take a
 suf:l'.drop b=l.drop b
 perm:l'.Perm l
theorem CK.refl(l:List α)(a b:Nat):CK l l a b:=⟨rfl,rfl,List.Perm.refl _⟩
theorem CK.len{l l':List α}{a b:Nat}(h:CK l l' a b):l'.length=l.length:=h.perm.length_eq
theorem CK.wider{l l':List α}{a b a' b':Nat}(h:CK l l' a b)(ha:a'<=a)(hb:b<=b'):CK l l' a' b':=by
 refine⟨?_,?_,h.perm⟩
 ·have:=congrArg (List.take a') h.pre;rwa[List.take_take,List.take_take,Nat.min_eq_left ha]at this
 ·have:=congrArg (List.drop (b'-b)) h.suf;rwa[List.drop_drop,List.drop_drop,Nat.add_sub_cancel' hb]at this
theorem CK.trans{l l' l'':List α}{a b:Nat}(h:CK l l' a b)(h':CK l' l'' a b):CK l l'' a b:=⟨h'.pre.trans h.pre,h'.suf.trans h.suf,h'.perm.trans h.perm⟩
theorem CK.seg_lo{l l':List α}{a b s e:Nat}(h:CK l l' a b)(he:e<=a):seg l' s e=seg l s e:=by
 unfold seg;have:=congrArg (List.take e) h.pre;rw[List.take_take,List.take_take,Nat.min_eq_left he]at this;rw[this]
theorem CK.seg_hi{l l':List α}{a b s e:Nat}(h:CK l l' a b)(hs:b<=s):seg l' s e=seg l s e:=by
 unfold seg;rw[List.drop_take,List.drop_take];have:=congrArg (List.drop (s-b)) h.suf;rw[List.drop_drop,List.drop_drop,Nat.add_sub_cancel' hs]at this;rw[this]
theorem KG{P X X' S:List α}{a b:Nat}(ha:P.length=a)(hb:P.length+X.length=b)(hp:X'.Perm X):CK (P++(X++S)) (P++(X'++S)) a b:=by
 subst ha;subst hb;refine⟨by simp,?_,(hp.append_right S).append_left P⟩;have h1:List.drop (P.length+X.length) (P++(X++S))=S:=by rw[<-List.drop_drop,List.drop_left,List.drop_left]
 have h2:List.drop (P.length+X.length) (P++(X'++S))=S:=by rw[<-List.drop_drop,List.drop_left,<-hp.length_eq,List.drop_left]
 rw[h1,h2]
theorem Iu{P X S:List α}{a b:Nat}(ha:P.length=a)(hb:P.length+X.length=b):seg (P++(X++S)) a b=X:=by
 subst ha;subst hb;unfold seg;rw[<-List.append_assoc,List.take_append_of_le_length (by simp),AT (by simp),List.drop_left]
theorem Gn(l:List α){a b:Nat}(hab:a<=b)(hb:b<=l.length):l=l.take a++(seg l a b++l.drop b)/\(l.take a).length=a/\(l.take a).length+(seg l a b).length=b:=by
 refine⟨?_,by rw[AZ];omega,by unfold seg;rw[List.length_drop,AZ,AZ];omega⟩;unfold seg;have h1:l.take b=(l.take b).take a++(l.take b).drop a:=(An _ _).symm;rw[List.take_take,Nat.min_eq_left hab]at h1;rw[<-List.append_assoc,<-h1,An]
theorem DV(l:List α){a m b:Nat}(ham:a<=m)(hmb:m<=b):seg l a b=seg l a m++seg l m b:=by
 unfold seg;rw[List.drop_take,List.drop_take,List.drop_take,show b-a=(m-a)+(b-m)from by omega,List.take_add,List.drop_drop,Nat.add_sub_cancel' ham]
theorem Ez(l:List α){a b i:Nat}(hi:a+i<b):(seg l a b)[i]? =l[a+i]?:=by
 unfold seg;rw[List.getElem?_drop,BP,if_pos hi]
theorem Cq(l:List α){a b:Nat}(hb:b<=l.length):(seg l a b).length=b-a:=by
 unfold seg;rw[List.length_drop,AZ,Nat.min_eq_left hb]
theorem Bz(l:List α){a b:Nat}(h:l.length<=a∨b<=a):seg l a b=[]:=by
 unfold seg;apply List.drop_eq_nil_of_le;rw[AZ];omega
theorem Dt(l:List α){a b:Nat}(h:l.length<=b):seg l a b=seg l a l.length:=by
 unfold seg;rw[AT h,List.take_length]
end
structure Ord {α:Type}(lt:α->α->Bool):Prop where
 asymm:∀x y,lt x y=true->lt y x=false
 trans:∀x y z,lt y x=false->lt z y=false->lt z x=false
section
variable {α:Type}{lt:α->α->Bool}
def Asc(lt:α->α->Bool)(l:List α):Prop:=l.Pairwise fun x y=>lt y x=false
theorem Ord.irrefl(h:Ord lt)(x:α):lt x x=false:=by
 cases hx:lt x x with
 |false=>rfl
 |true=>have:=h.asymm x x hx;rw[hx]at this;cases this
theorem Asc.nil:Asc lt []:=List.Pairwise.nil
theorem Asc.one(x:α):Asc lt [x]:=List.pairwise_singleton _ _
theorem DP{a b:List α}:Asc lt (a++b)↔Asc lt a/\Asc lt b/\∀x∈a,∀y∈b,lt y x=false:=List.pairwise_append
theorem Asc.get{l:List α}(h:Asc lt l){i j:Nat}{x y:α}(hij:i<j)(hx:l[i]? =some x)(hy:l[j]? =some y):lt y x=false:=by
 obtain⟨hi,rfl⟩:=AE.1 hx;obtain⟨hj,rfl⟩:=AE.1 hy;exact List.pairwise_iff_getElem.1 h i j hi hj hij
theorem Asc.last_le(ho:Ord lt){l:List α}{x y:α}(h:Asc lt (l++[x]))(hxy:lt y x=false):∀z∈l++[x],lt y z=false:=by
 intro z hz;rcases AP.1 hz with hz|hz
 ·exact ho.trans z x y ((DP.1 h).2.2 z hz x (by simp)) hxy
 ·rw[AU.1 hz];exact hxy
theorem Asc.upto(ho:Ord lt){l:List α}{i:Nat}{x y:α}(h:Asc lt l)(hx:l[i]? =some x)(hxy:lt y x=false):∀z∈l.take (i+1),lt y z=false:=by
 intro z hz;obtain⟨k,hk⟩:=List.mem_iff_getElem?.1 hz;rw[BP]at hk;split at hk
 ·rename_i hki
  rcases Nat.lt_or_ge k i with hlt|hge
  ·exact ho.trans z x y (h.get hlt hk hx) hxy
  ·obtain rfl:k=i:=by omega
   rw[hk]at hx;cases hx;exact hxy
 ·cases hk
theorem Asc.since(ho:Ord lt){l:List α}{i:Nat}{x y:α}(h:Asc lt l)(hx:l[i]? =some x)(hxy:lt x y=false):∀z∈l.drop i,lt z y=false:=by
 intro z hz;obtain⟨k,hk⟩:=List.mem_iff_getElem?.1 hz;rw[List.getElem?_drop]at hk;rcases Nat.eq_zero_or_pos k with h0|h0
 ·subst h0;rw[Nat.add_zero,hx]at hk;cases hk;exact hxy
 ·exact ho.trans y x z hxy (h.get (by omega) hx hk)
theorem Asc.take{l:List α}(h:Asc lt l)(k:Nat):Asc lt (l.take k):=List.Pairwise.sublist (List.take_sublist k l) h
theorem Asc.drop{l:List α}(h:Asc lt l)(k:Nat):Asc lt (l.drop k):=List.Pairwise.sublist (List.drop_sublist k l) h
theorem IG{a b:List α}{x:α}(h:Asc lt (a++b))(ha:∀z∈a,lt x z=false)(hb:∀z∈b,lt z x=false):Asc lt (a++x::b):=by
 obtain⟨h1,h2,h3⟩:=DP.1 h;refine DP.2 ⟨h1,List.pairwise_cons.2 ⟨hb,h2⟩,fun z hz y hy=>?_⟩;rcases List.mem_cons.1 hy with rfl|hy
 ·exact ha z hz
 ·exact h3 z hz y hy
def FD(lt:α->α->Bool)(bs:Nat)(l:List α):Prop:=∀t,Asc lt (seg l (t*bs) ((t+1)*bs))
theorem FD.all{bs:Nat}{l:List α}(h:FD lt bs l)(hb:l.length<=bs):Asc lt l:=by
 have:=h 0;rw[Nat.zero_mul,Nat.zero_add,Nat.one_mul,Dt l hb]at this;unfold seg at this;simpa using this
end
section
variable {α:Type}{lt:α->α->Bool}
theorem CK.seg_perm{l l':List α}{a b:Nat}(h:CK l l' a b)(hab:a<=b)(hb:b<=l.length):(seg l' a b).Perm (seg l a b):=by
 obtain⟨e,_,_⟩:=Gn l hab hb;obtain⟨e',_,_⟩:=Gn l' hab (by rw[h.len];exact hb);have hp:=h.perm;rw[e,e',h.pre,h.suf]at hp;exact(List.perm_append_right_iff _).1 ((List.perm_append_left_iff _).1 hp)
theorem Ud{l l1 l2 l3:List α}{a s m mid e b:Nat}(has:a<=s)(hsm:s<=m)(hme:m<=e)(heb:e<=b)(hbl:b<=l.length)(hmid:mid+m=s+e)(hX:Asc lt (seg l a m))(hY:Asc lt (seg l m b))(F1:∀x∈seg l a s,∀y∈seg l e b,lt y x=false)(F2:∀x∈seg l m e,∀y∈seg l s m,lt y x=false)(k1:CK l l1 s e)(q1:seg l1 s mid=seg l m e)(q2:seg l1 mid e=seg l s m)(k2:CK l1 l2 a mid)(z2:Asc lt (seg l2 a mid))(k3:CK l2 l3 mid b)(z3:Asc lt (seg l3 mid b)):CK l l3 a b/\Asc lt (seg l3 a b):=by
 have b1:s<=mid:=by omega
 have b2:mid<=e:=by omega
 refine⟨((k1.wider has heb).trans (k2.wider (AB _) (by omega))).trans (k3.wider (by omega) (AB _)),?_⟩;have p1:(seg l3 a mid).Perm (seg l a s++seg l m e):=by
  rw[k3.seg_lo (AB _)];refine(k2.seg_perm (by omega) (by rw[k1.len];omega)).trans ?_;rw[DV l1 has b1,k1.seg_lo (AB _),q1]
 have p2:(seg l3 mid b).Perm (seg l s m++seg l e b):=by
  refine(k3.seg_perm (by omega) (by rw[k2.len,k1.len];omega)).trans ?_;rw[k2.seg_hi (AB _),DV l1 b2 heb,q2,k1.seg_hi (AB _)]
 rw[DV l has hsm]at hX;rw[DV l hme heb]at hY;rw[DV l3 (show a<=mid by omega) (show mid<=b by omega)];refine DP.2 ⟨by rw[k3.seg_lo (AB _)];exact z2,z3,fun x hx y hy=>?_⟩;rcases AP.1 (p1.mem_iff.1 hx)with hx|hx <;> rcases AP.1 (p2.mem_iff.1 hy)with hy|hy
 ·exact(DP.1 hX).2.2 x hx y hy
 ·exact F1 x hx y hy
 ·exact F2 x hx y hy
 ·exact(DP.1 hY).2.2 x hx y hy
theorem Xu(ho:Ord lt){l:List α}{a s m e b:Nat}{x y:α}(hm:s<m+1)(hme:m<=e)(hX:Asc lt (seg l a m))(hY:Asc lt (seg l m b))(has:a+1<=s)(heb:e<b)(hx:l[s-1]? =some x)(hy:l[e]? =some y)(h:lt y x=false):∀u∈seg l a s,∀v∈seg l e b,lt v u=false:=by
 intro u hu v hv;have e1:seg l a s=(seg l a m).take (s-1-a+1):=by
  unfold seg;rw[List.drop_take,List.drop_take,List.take_take];congr 1;omega
 have e2:seg l e b=(seg l m b).drop (e-m):=by
  unfold seg;rw[List.drop_drop];congr 1;omega
 rw[e1]at hu;rw[e2]at hv;have h1:=hX.upto ho (i:=s-1-a) (x:=x) (y:=y) (by rw[Ez l (by omega),<-hx];congr 1;omega) h u hu;have h2:=hY.since ho (i:=e-m) (x:=y) (y:=y) (by rw[Ez l (by omega),<-hy];congr 1;omega) (ho.irrefl y) v hv;exact ho.trans u y v h1 h2
theorem Xv(ho:Ord lt){l:List α}{a s m e b:Nat}{x y:α}(hsm:s<m)(hme:m<e)(has:a<=s)(heb:e<=b)(hX:Asc lt (seg l a m))(hY:Asc lt (seg l m b))(hx:l[s]? =some x)(hy:l[e-1]? =some y)(h:lt y x=true):∀u∈seg l m e,∀v∈seg l s m,lt v u=false:=by
 intro u hu v hv;have e1:seg l m e=(seg l m b).take (e-1-m+1):=by
  unfold seg;rw[List.drop_take,List.drop_take,List.take_take];congr 1;omega
 have e2:seg l s m=(seg l a m).drop (s-a):=by
  unfold seg;rw[List.drop_drop];congr 1;omega
 rw[e1]at hu;rw[e2]at hv;have h1:=hY.upto ho (i:=e-1-m) (x:=y) (y:=y) (by rw[Ez l (by omega),<-hy];congr 1;omega) (ho.irrefl y) u hu;have h2:=hX.since ho (i:=s-a) (x:=x) (y:=y) (by rw[Ez l (by omega),<-hx];congr 1;omega) (ho.asymm _ _ h) v hv;exact ho.trans u y v h1 h2
theorem SP(ho:Ord lt){P S Y:List α}{x:α}{a b i:Nat}(ha:P.length=a)(hb:a+1+Y.length=b)(hY:Asc lt Y)(hi:i<=Y.length)(h1:i=0∨∃u,Y[i-1]? =some u/\lt u x=true)(h2:i=Y.length∨∃u,Y[i]? =some u/\lt u x=false):CK (P++(x::Y++S)) (P++((Y.take i++x::Y.drop i)++S)) a b/\Asc lt (seg (P++((Y.take i++x::Y.drop i)++S)) a b):=by
 have hp:(Y.take i++x::Y.drop i).Perm (x::Y):=by
  refine List.perm_middle.trans ?_;rw[An]
 refine⟨KG ha (by rw[ha,Ah];omega) hp,?_⟩;rw[Iu ha (by rw[ha,hp.length_eq,Ah];omega)];refine IG (by rw[An];exact hY) ?_ ?_
 ·rcases h1 with rfl|⟨u,hu,hlt⟩
  ·intro z hz;simp at hz
  ·rcases Nat.eq_zero_or_pos i with h0|h0
   ·subst h0;intro z hz;simp at hz
   ·have:=hY.upto ho hu (ho.asymm _ _ hlt);rwa[show i-1+1=i from by omega]at this
 ·rcases h2 with rfl|⟨u,hu,hlt⟩
  ·intro z hz;simp at hz
  ·exact hY.since ho hu hlt
theorem Ue(ho:Ord lt){P S X:List α}{y:α}{a b i:Nat}(ha:P.length=a)(hb:a+X.length+1=b)(hX:Asc lt X)(hi:i<=X.length)(h1:i=0∨∃u,X[i-1]? =some u/\lt y u=false)(h2:i=X.length∨∃u,X[i]? =some u/\lt y u=true):CK (P++((X++[y])++S)) (P++((X.take i++y::X.drop i)++S)) a b/\Asc lt (seg (P++((X.take i++y::X.drop i)++S)) a b):=by
 have hp:(X.take i++y::X.drop i).Perm (X++[y]):=by
  refine List.perm_middle.trans ?_;rw[An];exact(List.perm_append_singleton y X).symm
 refine⟨KG ha (by rw[ha,AF,List.length_singleton];omega) hp,?_⟩;rw[Iu ha (by rw[ha,hp.length_eq,AF,List.length_singleton];omega)];refine IG (by rw[An];exact hX) ?_ ?_
 ·rcases h1 with rfl|⟨u,hu,hlt⟩
  ·intro z hz;simp at hz
  ·rcases Nat.eq_zero_or_pos i with h0|h0
   ·subst h0;intro z hz;simp at hz
   ·have:=hX.upto ho hu hlt;rwa[show i-1+1=i from by omega]at this
 ·rcases h2 with rfl|⟨u,hu,hlt⟩
  ·intro z hz;simp at hz
  ·exact hX.since ho hu (ho.asymm _ _ hlt)
theorem FD.twice{bs k:Nat}{l:List α}(hlo:∀t,t<k->Asc lt (seg l (t*(2*bs)) ((t+1)*(2*bs))))(hIM:Asc lt (seg l (k*(2*bs)) ((k+1)*(2*bs))))(hDc:l.length<(k+1)*(2*bs)):FD lt (2*bs) l:=by
 intro t;rcases Nat.lt_trichotomy t k with h|h|h
 ·exact hlo t h
 ·subst h;exact hIM
 ·have h2:(k+1)*(2*bs)<=t*(2*bs):=Nat.mul_le_mul_right _ h;rw[Bz l (.inl (by omega))];exact Asc.nil
end
end
section
open Go.RowKit
section
variable {α:Type}{c:α->List Value}{t:TypeId}{w0 w w':World}{g:Nat}{l l':List α}
structure Row (c:α->List Value)(t:TypeId)(w0:World)(g:Nat)(l:List α)(w:World):Prop where
 blk:Blk w g t (l.flatMap c).toArray
 kept:w0.grownBy w (some g)
theorem Row.self(h:Blk w g t (l.flatMap c).toArray):Row c t w g l w:=⟨h,Am w g⟩
theorem Row.trans(h:Row c t w0 g l w)(h':Row c t w g l' w'):Row c t w0 g l' w':=⟨h'.blk,h.kept.trans h'.kept⟩
theorem Row.alloc(h:Row c t w0 g l w)(o:Obj):Row c t w0 g l (w.alloc o):=⟨h.blk.alloc o,Bt h.kept o⟩
theorem Row.below(h:Row c t w0 g l w)(hb:ZN w w'):Row c t w0 g l w':=
 ⟨h.blk.below hb h.blk.lt,h.kept.trans ⟨hb.os,hb.tape,hb.output,hb.size,fun i hi _=>hb.block i hi⟩⟩
theorem E4(w:World)(o:Obj)(row:Option Nat):w.grownBy (w.alloc o) row:=⟨rfl,rfl,rfl,by simp,fun i hi _=>Below.heap_alloc w o i hi⟩
theorem Row.off{o:Obj}(h:Row c t (w.alloc o) g l' w'):Row c t w g l' w':=⟨h.blk,(E4 w o (some g)).trans h.kept⟩
theorem Row.box{k:Nat}{tb:TypeId}{cs:Array Value}(h:Row c t w0 g l w)(hB:Blk w0 k tb cs)(hk:k≠g):Blk w k tb cs:=hB.kept h.kept (by simpa using hk)
def Ej(c:α->List Value)(t:TypeId)(w0:World)(g:Nat)(l0:List α)(lt:α->α->Bool)(f:Nat)(lb:Array Value):Prop:=
 ∀(W:World) (l:List α) (i j:Nat) (x y:α),Row c t w0 g l W->l.Perm l0->l[i]? =some x->l[j]? =some y->
  Calls prog f (#[.int .i64 (i:Int),.int .i64 (j:Int)]++lb) W fun e w'=>e= .returned (.bool (lt x y))/\ZN W w'
def FE(c:α->List Value)(t:TypeId)(w0:World)(g n:Nat)(f:Nat)(sb:Array Value):Prop:=
 ∀(W:World) (l:List α) (i j:Nat),Row c t w0 g l W->l.length=n->i<n->j<n->i≠j->
  ∃W',(callFunc f (#[.int .i64 (i:Int),.int .i64 (j:Int)]++sb)).run prog W= .ok (.value (.tuple #[])) W'/\Row c t W g (Ci l i j) W'
theorem Ej.later{l0:List α}{lt:α->α->Bool}{f:Nat}{lb:Array Value}(h:Ej c t w0 g l0 lt f lb)(hw:w0.grownBy w (some g)):Ej c t w g l0 lt f lb:=
 fun W l i j x y hr hp hx hy=>h W l i j x y ⟨hr.blk,hw.trans hr.kept⟩ hp hx hy
end
theorem DD(g t:Nat):∀(vs:List Value) (s:Nat) (w:World) (cs:List Value),Blk w g t cs.toArray->s+vs.length<=cs.length->
  Blk (w.setCells g s vs) g t (cs.take s++vs++cs.drop (s+vs.length)).toArray/\w.grownBy (w.setCells g s vs) (some g)
 |[],s,w,cs,h,_=>by
  refine⟨?_,Am w g⟩;rw[World.setCells,List.append_nil,List.length_nil,Nat.add_zero,An];exact h
 |v::r,s,w,cs,h,hl=>by
  rw[Ah]at hl;have h1:Blk (w.setCell ⟨g,s,none⟩ v) g t (cs.set s v).toArray:=by
   have:=h.put s v;simpa using this
  obtain⟨h2,h3⟩:=DD g t r (s+1) _ _ h1 (by rw[List.length_set];omega);rw[World.setCells];refine⟨?_,(Bl (Am w g) rfl v).trans h3⟩;have e:List.take s cs++v::r++List.drop (s+(v::r).length) cs=List.take (s+1) (cs.set s v)++r++List.drop (s+1+r.length) (cs.set s v):=by
   rw[List.drop_set_of_lt (by omega),Ah,List.take_set,List.take_succ_eq_append_getElem (by omega),List.set_append_right _ _ (by rw[AZ];omega)];simp[AZ,Nat.min_eq_left (show s<=cs.length by omega)];congr 1;omega
  rw[e];exact h2
theorem GN{α:Type}(f:α->List Value)(m:Nat)(l:List α)(hm:∀x∈l,(f x).length=m)(i:Nat)(x:α)(hi:i<l.length):(l.set i x).flatMap f=(l.flatMap f).take (i*m)++f x++(l.flatMap f).drop (i*m+m):=by
 have e1:(l.flatMap f).take (i*m)=(l.take i).flatMap f:=by
  have e:l.flatMap f=(l.take i).flatMap f++(l.drop i).flatMap f:=by rw[<-Af,An]
  have hl:((l.take i).flatMap f).length=i*m:=by
   rw[AY f m _ (fun z hz=>hm z (List.mem_of_mem_take hz)),AZ,Nat.min_eq_left (by omega)]
  rw[e,<-hl,List.take_left]
 have e2:(l.flatMap f).drop (i*m+m)=(l.drop (i+1)).flatMap f:=by
  have e:l.flatMap f=(l.take (i+1)).flatMap f++(l.drop (i+1)).flatMap f:=by rw[<-Af,An]
  have hl:((l.take (i+1)).flatMap f).length=i*m+m:=by
   rw[AY f m _ (fun z hz=>hm z (List.mem_of_mem_take hz)),AZ,Nat.min_eq_left (by omega),Nat.succ_mul]
  rw[e,<-hl,List.drop_left]
 rw[e1,e2,List.set_eq_take_append_cons_drop,if_pos hi];simp
theorem P5{α:Type}(c:α->List Value)(m:Nat)(t e:TypeId)(w0:World)(g n cap f:Nat)(gS:Bool)(hx:∀args W,(callFunc f args).run prog W=((Extern.ReflectliteSwapper.swap gS args).run prog W).andThen fun v w'=>.ok (.value v) w')(ie:TypeInfo)(hie:prog.info? e=some ie)(hsz:ie.size=m)(hagg:∀w,(isAgg e).run prog w= .ok true w)(hm:∀x,(c x).length=m)(h1:∀x,∀v∈c x,v.oneCell'=true):FE c t w0 g n f #[.slice (some ⟨g,0,none⟩) n cap,typeHandle prog e]:=by
 intro W l i j hr hn hi hj _;subst hsz;obtain⟨x,hx1⟩:∃x,l[i]? =some x:=⟨_,AD (by omega)⟩;obtain⟨y,hy1⟩:∃y,l[j]? =some y:=⟨_,AD (by omega)⟩;have hlen:∀(l:List α),(l.flatMap c).length=l.length*ie.size:=fun l=>AY c ie.size l (fun x _=>hm x)
 have cell:∀(k u:Nat) (z:α) (v:Value),l[k]? =some z->(c z)[u]? =some v->W.cell? ⟨g,0+k*ie.size+u,none⟩=some v:=by
  intro k u z v hz hv;rw[hr.blk.cell,Nat.zero_add];have:=B4 c ie.size l (fun x _=>hm x) k u z hz (by rw[<-hm z];exact(AE.1 hv).1);rw[List.getElem?_toArray,this,hv]
 have xN:=Lib.run_swap_cells (P:=prog) gS e ie hie hagg g 0 n cap i j hi hj (c x) (c y) (hm x) (hm y) (h1 x) (h1 y) W (fun u v hv=>cell i u x v hx1 hv) (fun u v hv=>cell j u y v hy1 hv)
  (fun u _=>hr.blk.frozen _) (fun u _=>hr.blk.frozen _)
 have bi:i*ie.size+ie.size<=l.length*ie.size:=by
  have:=Nat.mul_le_mul_right ie.size (show i+1<=l.length by omega);rwa[Nat.succ_mul]at this
 have bj:j*ie.size+ie.size<=l.length*ie.size:=by
  have:=Nat.mul_le_mul_right ie.size (show j+1<=l.length by omega);rwa[Nat.succ_mul]at this
 obtain⟨b1,k1⟩:=DD g t (c y) (i*ie.size) W (l.flatMap c) hr.blk (by rw[hm,hlen];exact bi);rw[hm,<-GN c ie.size l (fun x _=>hm x) i y (by omega)]at b1;obtain⟨b2,k2⟩:=DD g t (c x) (j*ie.size) _ ((l.set i y).flatMap c) b1 (by rw[hm,hlen,List.length_set];exact bj);rw[hm,<-GN c ie.size _ (fun x _=>hm x) j x (by rw[List.length_set];omega)]at b2;refine⟨_,?_,⟨?_,k1.trans k2⟩⟩
 ·rw[hx,show(#[Value.int .i64 (i:Int),Value.int .i64 (j:Int)]++#[Value.slice (some ⟨g,0,none⟩) n cap,typeHandle prog e])=#[.int .i64 i,.int .i64 j,.slice (some ⟨g,0,none⟩) n cap,typeHandle prog e]from rfl,xN,Nat.zero_add,Nat.zero_add];rfl
 ·unfold Ci;rw[hx1,hy1];exact b2
theorem SQ{α:Type}{P X M Y S:List α}{k i:Nat}(hX:X.length=k)(hY:Y.length=k)(hi:i<k):Ci (P++(Y.take i++(X.drop i++(M++(X.take i++(Y.drop i++S)))))) (P.length+i) (P.length+k+M.length+i)=P++(Y.take (i+1)++(X.drop (i+1)++(M++(X.take (i+1)++(Y.drop (i+1)++S))))):=by
 have hx:i<X.length:=by omega
 have hy:i<Y.length:=by omega
 rw[List.drop_eq_getElem_cons hx,List.drop_eq_getElem_cons hy,List.take_succ_eq_append_getElem hx,List.take_succ_eq_append_getElem hy];have h:=Gm (P++Y.take i) (X.drop (i+1)++(M++X.take i)) (Y.drop (i+1)++S) X[i] Y[i];have e1:(P++Y.take i).length=P.length+i:=by rw[AF,AZ];omega
 have e2:(P++Y.take i).length+1+(X.drop (i+1)++(M++X.take i)).length=P.length+k+M.length+i:=by
  rw[e1];simp only[AF,List.length_drop,AZ];omega
 rw[e2,e1]at h;simp only[List.append_assoc,List.cons_append,List.nil_append]at h ⊢;exact h
section
variable {α:Type}{c:α->List Value}{t:TypeId}{w0:World}{g n f:Nat}{sb:Array Value}
theorem FG(lf:Value)(hsw:FE c t w0 g n f sb)(a b k:Nat)(P X M Y S:List α)(w:World)(xV:Row c t w0 g (P++(X++(M++(Y++S)))) w)(hn:(P++(X++(M++(Y++S)))).length=n)(xS:n<=1000000)(ha:P.length=a)(hX:X.length=k)(hY:Y.length=k)(hb:a+k+M.length=b):Calls prog 272 #[.agg #[lf,.func (.func f) #[] sb],.int .i64 (a:Int),.int .i64 (b:Int),.int .i64 (k:Int)] w fun e w'=>e= .returned (.tuple #[])/\Row c t w g (P++(Y++(M++(X++S)))) w':=by
 have hbig:b+k<=n:=by
  simp only[AF]at hn;omega
 have hab:a+k<=b:=by omega
 have HSw:=AA hsw;clear hsw;have xh:=AA xV;clear xV;have HN:=AA hn;clear hn;have HX:=AA hX;clear hX;have HY:=AA hY;clear hY;have HA:=AA ha;clear ha;have HB:=AA hb;clear hb;have hgw:g<w.heap.size:=xh.out.blk.lt;go_enter func272,ntmps272;go_wp2
 go_loopw [8] (fun iv wr=>∃i:Nat,iv= .int .i64 (i:Int)/\i<=k/\Row c t (w.alloc (.cells #[lf,.func (.func f) #[] sb] 190)) g (P++(Y.take i++(X.drop i++(M++(X.take i++(Y.drop i++S)))))) wr) (fun iv _=>k-(intOf iv).toNat)
 case atStart=>
  refine⟨0,rfl,Nat.zero_le _,?_⟩;have:=Row.self (xh.out.blk.alloc (.cells #[lf,.func (.func f) #[] sb] 190));simpa using this
 case round=>
  obtain⟨i,rfl,hik,hr⟩:=hrel;have HR:=AA hr;clear hr;by_cases hi:i<k
  ·have c1:wr.cell? ⟨w.heap.size,1,none⟩=some (.func (.func f) #[] sb):=(HR.out.box (Blk.new w _ _) (by omega)).cell 1;have hlen:(P++(Y.take i++(X.drop i++(M++(X.take i++(Y.drop i++S)))))).length=n:=by
    rw[<-HN.out];have h1:=HX.out;have h2:=HY.out;simp only[AF,AZ,List.length_drop];omega
   obtain⟨W',xN,yk⟩:=HSw.out wr _ (a+i) (b+i) (xh.out.trans (HR.out.off)) hlen (by omega) (by omega) (by omega);rw[show((a+i:Nat):Int)=(a:Int)+(i:Int)from by omega,show((b+i:Nat):Int)=(b:Int)+(i:Int)from by omega]at xN;have hs:=SQ (P:=P) (X:=X) (M:=M) (Y:=Y) (S:=S) HX.out HY.out hi;rw[HA.out,HB.out]at hs;rw[hs]at yk;have hIN:=AA (HR.out.trans yk);clear hs yk hlen;go_wp2;go_roundw
   case rel=>exact⟨i+1,by go_num,by omega,hIN.out⟩
   case measure=>simp[intOf];omega
  ·obtain rfl:k=i:=by omega
   go_wp2;go_end0;refine⟨rfl,?_⟩;have h:=HR.out.off;rw[AT (Nat.le_of_eq HY.out),List.drop_eq_nil_of_le (Nat.le_of_eq HX.out),AT (Nat.le_of_eq HX.out),List.drop_eq_nil_of_le (Nat.le_of_eq HY.out)]at h;simpa using h
theorem P6(lf:Value)(hsw:FE c t w0 g n f sb)(a m b:Nat)(P X Y S:List α)(w:World)(xV:Row c t w0 g (P++(X++(Y++S))) w)(hn:(P++(X++(Y++S))).length=n)(xS:n<=1000000)(ha:P.length=a)(hm:a+X.length=m)(hb:m+Y.length=b)(hX:0<X.length)(hY:0<Y.length):Calls prog 236 #[.agg #[lf,.func (.func f) #[] sb],.int .i64 (a:Int),.int .i64 (m:Int),.int .i64 (b:Int)] w fun e w'=>e= .returned (.tuple #[])/\Row c t w g (P++(Y++(X++S))) w':=by
 have hbig:b<=n:=by
  simp only[AF]at hn;omega
 have ham:a<=m:=by omega
 have hmb:m<=b:=by omega
 obtain⟨T,hT⟩:=ZH (P++(Y++(X++S)));obtain⟨l,hl⟩:=ZH (P++(X++(Y++S)));have hs0:∃U X' Y' V:List α,((m:Int)-(a:Int))=(X'.length:Int)/\((b:Int)-(m:Int))=(Y'.length:Int)/\0<X'.length/\0<Y'.length/\U.length+X'.length=m/\(U++(X'++(Y'++V))).length=n/\l=U++(X'++(Y'++V))/\U++(Y'++(X'++V))=T:=
  ⟨P,X,Y,S,by omega,by omega,hX,hY,by omega,hn,hl,hT.symm⟩
 rw[<-hl]at xV hn;rw[<-hT];have HSw:=AA hsw;have xh:=AA xV;have HS0:=AA hs0;clear hsw xV hs0 hn hl hT hX hY ha hm hb;have hgw:g<w.heap.size:=xh.out.blk.lt;go_enter func236,ntmps236;go_wp2
 go_loopw [8,9] (fun iv jv wr=>∃(i j:Nat) (U X' Y' V:List α),iv= .int .i64 (i:Int)/\jv= .int .i64 (j:Int)/\X'.length=i/\Y'.length=j/\0<i/\0<j/\U.length+i=m/\(U++(X'++(Y'++V))).length=n/\Row c t (w.alloc (.cells #[lf,.func (.func f) #[] sb] 190)) g (U++(X'++(Y'++V))) wr/\U++(Y'++(X'++V))=T) (fun iv jv _=>(intOf iv).toNat+(intOf jv).toNat)
 case atStart=>
  obtain⟨U,X',Y',V,h1,h2,h3,h4,h5,h6,h7,h8⟩:=HS0.out;refine⟨X'.length,Y'.length,U,X',Y',V,by rw[h1],by rw[h2],rfl,rfl,h3,h4,h5,h6,?_,h8⟩;rw[<-h7];exact Row.self (xh.out.blk.alloc (.cells #[lf,.func (.func f) #[] sb] 190))
 case round=>
  obtain⟨i,j,U,X',Y',V,rfl,rfl,hX,hY,hi,hj,hU,hn,hr,hT⟩:=hrel;have hjb:m+j<=n:=by
   simp only[AF]at hn;omega
  have HB:Hid (Blk wr w.heap.size 190 #[lf,.func (.func f) #[] sb]):=hr.box (Blk.new w _ _) (by omega);have HR:=AA hr;have HT:=AA hT;have HXl:=AA hX;have HYl:=AA hY;have HN:=AA hn;have HU:=AA hU;have hiU:i<=m:=by omega
  clear hr hT hX hY hn hU;have c0:wr.cell? ⟨w.heap.size,0,none⟩=some lf:=HB.out.cell 0;have c1:wr.cell? ⟨w.heap.size,1,none⟩=some (.func (.func f) #[] sb):=HB.out.cell 1;have k1:(m:Int)-(i:Int)=((m-i:Nat):Int):=by omega
  rcases Nat.lt_trichotomy i j with hij|hij|hij
  ·have d1:decide ((i:Int)=(j:Int))=false:=by simp;omega
   have hsp:=An (j-i) Y';have hc:=FG lf HSw.out (m-i) (m+j-i) i U X' (Y'.take (j-i)) (Y'.drop (j-i)) V wr
    (by rw[<-List.append_assoc (Y'.take (j-i)),hsp];exact xh.out.trans HR.out.off) (by rw[<-List.append_assoc (Y'.take (j-i)),hsp];exact HN.out) xS
    (by have:=HU.out;omega) HXl.out (by rw[List.length_drop,HYl.out];omega) (by rw[AZ,HYl.out];omega)
   rw[show((m+j-i:Nat):Int)=(m:Int)+(j:Int)-(i:Int)from by omega,show((m-i:Nat):Int)=(m:Int)-(i:Int)from by omega]at hc;have HC:=AA hc;clear hc hsp k1;go_wp2_with (go_at_call 272;refine HC.out.mono ?_;rintro en w2 ⟨rfl,hr2⟩)
   go_roundw
   case rel=>
    refine⟨i,j-i,U,Y'.drop (j-i),Y'.take (j-i),X'++V,rfl,by go_num,by rw[List.length_drop,HYl.out];omega,by rw[AZ,HYl.out];omega,hi,by omega,HU.out,?_,?_,?_⟩
    ·have h:=HN.out;have h2:=HYl.out;simp only[AF,List.length_drop,AZ]at h ⊢;omega
    ·exact HR.out.trans hr2
    ·rw[<-HT.out]
     conv=>rhs;rw[<-An (j-i) Y']
     simp only[List.append_assoc]
   case measure=>simp[intOf];omega
  ·subst hij;have hc:=FG lf HSw.out (m-i) m i U X' [] Y' V wr (by rw[List.nil_append];exact xh.out.trans HR.out.off) (by rw[List.nil_append];exact HN.out) xS
    (by have:=HU.out;omega) HXl.out HYl.out (by rw[List.length_nil];omega)
   rw[show((m-i:Nat):Int)=(m:Int)-(i:Int)from by omega]at hc;have HC:=AA hc;clear hc k1;go_wp2_with (go_at_call 272;refine HC.out.mono ?_;rintro en w2 ⟨rfl,hr2⟩)
   go_end0;refine⟨rfl,?_⟩;have h:=(HR.out.trans hr2).off;rw[List.nil_append,HT.out]at h;exact h
  ·have d1:decide ((i:Int)=(j:Int))=false:=by simp;omega
   have hsp:=An j X';have hc:=FG lf HSw.out (m-i) m j U (X'.take j) (X'.drop j) Y' V wr
    (by rw[<-List.append_assoc (X'.take j),hsp];exact xh.out.trans HR.out.off) (by rw[<-List.append_assoc (X'.take j),hsp];exact HN.out) xS
    (by have:=HU.out;omega) (by rw[AZ,HXl.out];omega) HYl.out (by rw[List.length_drop,HXl.out];omega)
   rw[show((m-i:Nat):Int)=(m:Int)-(i:Int)from by omega]at hc;have HC:=AA hc;clear hc hsp k1;go_wp2_with (go_at_call 272;refine HC.out.mono ?_;rintro en w2 ⟨rfl,hr2⟩)
   go_roundw
   case rel=>
    refine⟨i-j,j,U++Y',X'.drop j,X'.take j,V,by go_num,rfl,by rw[List.length_drop,HXl.out],by rw[AZ,HXl.out];omega,by omega,hj,?_,?_,?_,?_⟩
    ·have h:=HU.out;have h2:=HYl.out;rw[AF];omega
    ·have h:=HN.out;have h2:=HXl.out;simp only[AF,List.length_drop,AZ]at h ⊢;omega
    ·rw[List.append_assoc];exact HR.out.trans hr2
    ·rw[<-HT.out]
     conv=>rhs;rw[<-An j X']
     simp only[List.append_assoc]
   case measure=>simp[intOf];omega
end
section
variable {α:Type}{c:α->List Value}{t:TypeId}{w0:World}{g n f F:Nat}{sb lb:Array Value}{lt:α->α->Bool}{l0:List α}
def D7(c:α->List Value)(t:TypeId)(g:Nat)(lt:α->α->Bool)(l:List α)(a b:Nat)(w:World)(e:Ending)(w':World):Prop:=
 e= .returned (.tuple #[])/\∃l',Row c t w g l' w'/\CK l l' a b/\Asc lt (seg l' a b)
def DQ(lt:α->α->Bool)(l':List α)(a i j:Nat)(lj:List α):Prop:=
 ∃(Q L1 L2 R:List α) (x:α),Q.length=a/\a+L1.length=j/\j+L2.length=i/\l'=Q++((L1++L2)++x::R)/\lj=Q++((L1++x::L2)++R)/\Asc lt (L1++L2)/\∀z∈L2,lt x z=true
theorem DQ.start{l':List α}{a i:Nat}(hai:a<=i)(hi:i<l'.length)(hs:Asc lt (seg l' a i)):DQ lt l' a i i l':=by
 obtain⟨e,h1,h2⟩:=Gn l' hai (Nat.le_of_lt hi);refine⟨l'.take a,seg l' a i,[],l'.drop (i+1),l'[i],h1,by omega,by simp,?_,?_,by simpa using hs,fun z hz=>by cases hz⟩
 ·rw[List.append_nil,<-List.drop_eq_getElem_cons hi];exact e
 ·rw[List.append_assoc,List.cons_append,List.nil_append,<-List.drop_eq_getElem_cons hi];exact e
theorem DQ.len{l' lj:List α}{a i j:Nat}(h:DQ lt l' a i j lj):lj.length=l'.length/\a<=j/\j<=i/\i<l'.length:=by
 obtain⟨Q,L1,L2,R,x,h1,h2,h3,h4,h5,_,_⟩:=h;rw[h4,h5];simp only[AF,Ah];omega
theorem DQ.perm{l' lj:List α}{a i j:Nat}(h:DQ lt l' a i j lj):CK l' lj a (i+1):=by
 obtain⟨Q,L1,L2,R,x,h1,h2,h3,h4,h5,_,_⟩:=h;rw[h4,h5];have hp:(L1++x::L2).Perm ((L1++L2)++[x]):=(List.perm_middle).trans (List.perm_append_singleton x (L1++L2)).symm;have e:Q++((L1++L2)++x::R)=Q++(((L1++L2)++[x])++R):=by simp
 rw[e];exact KG h1 (by simp only[AF,Ah,List.length_nil];omega) hp
theorem DQ.two{l' lj:List α}{a i j:Nat}(h:DQ lt l' a i j lj)(hj:a<j):∃x y,lj[j]? =some x/\lj[j-1]? =some y/\(lt x y=true->DQ lt l' a i (j-1) (Ci lj j (j-1))):=by
 obtain⟨Q,L1,L2,R,x,h1,h2,h3,h4,h5,h6,h7⟩:=h;obtain⟨L,y,hL⟩:∃L y,L1=L++[y]:=by
  rcases List.eq_nil_or_concat L1 with e|⟨L,y,e⟩
  ·rw[e]at h2;simp at h2;omega
  ·exact⟨L,y,by simpa using e⟩
 subst hL;rw[AF,List.length_singleton]at h2;have e:lj=(Q++L)++y::x::(L2++R):=by rw[h5];simp
 have el:(Q++L).length=j-1:=by rw[AF];omega
 refine⟨x,y,?_,?_,fun hxy=>⟨Q,L,y::L2,R,x,h1,by omega,by rw[Ah];omega,by rw[h4];simp,?_,by simpa using h6,?_⟩⟩
 ·rw[e,List.getElem?_append_right (by omega),el,show j-(j-1)=1 from by omega];rfl
 ·rw[e,List.getElem?_append_right (by omega),el,Nat.sub_self];rfl
 ·have hs:=LB (Q++L) (L2++R) y x;rw[el,show j-1+1=j from by omega,<-e]at hs;rw[hs];simp
 ·intro z hz;rcases List.mem_cons.1 hz with rfl|hz
  ·exact hxy
  ·exact h7 z hz
theorem DQ.done(ho:Ord lt){l' lj:List α}{a i j:Nat}(h:DQ lt l' a i j lj)(hs:j=a∨∃x y,lj[j]? =some x/\lj[j-1]? =some y/\lt x y=false):Asc lt (seg lj a (i+1)):=by
 obtain⟨Q,L1,L2,R,x,h1,h2,h3,h4,h5,h6,h7⟩:=h;rw[h5,Iu h1 (by simp only[AF,Ah];omega)];refine IG h6 ?_ (fun z hz=>ho.asymm _ _ (h7 z hz));rcases hs with hj|⟨x',y,hx,hy,hxy⟩
 ·have:L1=[]:=AV (by omega);subst this;intro z hz;cases hz
 ·rcases List.eq_nil_or_concat L1 with e|⟨L,u,e⟩
  ·rw[e];intro z hz;cases hz
  ·have e':L1=L++[u]:=by simpa using e
   subst e';rw[AF,List.length_singleton]at h2;have el:(Q++L).length=j-1:=by rw[AF];omega
   have ej:lj=(Q++L)++u::x::(L2++R):=by rw[h5];simp
   rw[ej,List.getElem?_append_right (by omega),el,show j-(j-1)=1 from by omega]at hx;rw[ej,List.getElem?_append_right (by omega),el,Nat.sub_self]at hy;cases hx;cases hy
   exact Asc.last_le ho (DP.1 h6).1 hxy
theorem Lq(eg:∀args w,(callFunc F args).run prog w= .ok (.enter F args) w)(ho:Ord lt)(hle:Ej c t w0 g l0 lt F lb)(hsw:FE c t w0 g n f sb)(a b:Nat)(l:List α)(w:World)(xV:Row c t w0 g l w)(hp:l.Perm l0)(hn:l.length=n)(xS:n<=1000000)(hab:a<=b)(hb:b<=n):Calls prog 179 #[.agg #[.func (.func F) #[] lb,.func (.func f) #[] sb],.int .i64 (a:Int),.int .i64 (b:Int)] w (D7 c t g lt l a b w):=by
 have HO:=AA ho;clear ho;have HLe:=AA hle;clear hle;have HSw:=AA hsw;clear hsw;have xh:=AA xV;clear xV;have HP:=AA hp;clear hp;have HN:=AA hn;clear hn;have hgw:g<w.heap.size:=xh.out.blk.lt;go_enter func179,ntmps179;go_wp2
 go_loopw [6] (fun iv wr=>∃(i:Nat) (l':List α),iv= .int .i64 (i:Int)/\a<i/\(i<=b∨b=a)/\Row c t (w.alloc (.cells #[.func (.func F) #[] lb,.func (.func f) #[] sb] 190)) g l' wr/\CK l l' a b/\Asc lt (seg l' a i)) (fun iv _=>b+1-(intOf iv).toNat)
 case atStart=>
  refine⟨a+1,l,by go_num,by omega,by omega,Row.self (xh.out.blk.alloc _),CK.refl _ _ _,?_⟩;rcases hs:seg l a (a+1)with _|⟨x,_|⟨y,r⟩⟩
  ·exact Asc.nil
  ·exact Asc.one _
  ·have:=congrArg List.length hs;unfold seg at this;rw[List.length_drop,AZ]at this;simp at this;omega
 case round=>
  obtain⟨i,l',rfl,hai,hib,hr,hk,hs⟩:=hrel;have HR:=AA hr;have HK:=AA hk;have HS:=AA hs;clear hr hk hs;by_cases hi:i<b
  ·have di:=ZK (show i<b by omega)
   have HL':Hid (l'.length=n):=HK.out.len.trans HN.out;go_wp2
   go_loopw [7] (fun jv wr=>∃(j:Nat) (lj:List α),jv= .int .i64 (j:Int)/\a<=j/\j<=i/\Row c t (w.alloc (.cells #[.func (.func F) #[] lb,.func (.func f) #[] sb] 190)) g lj wr/\DQ lt l' a i j lj) (fun jv _=>(intOf jv).toNat)
   case atStart=>exact⟨i,l',rfl,by omega,by omega,HR.out,DQ.start (by omega) (by rw[HL'.out];omega) HS.out⟩
   case round=>
    obtain⟨j,lj,rfl,haj,hji,hr,hBa⟩:=hrel;have hlj:lj.length=n:=hBa.len.1.trans HL'.out;have HLj:=AA hlj;have HI:=AA hBa;have HRj:=AA hr;have c0:wr.cell? ⟨w.heap.size,0,none⟩=some (.func (.func F) #[] lb):=(HRj.out.box (Blk.new w _ _) (by omega)).cell 0;clear hr hBa hlj;have HPj:Hid (lj.Perm l0):=(HI.out.perm.perm.trans HK.out.perm).trans HP.out;have HKj:Hid (CK l lj a b):=HK.out.trans (HI.out.perm.wider (AB _) (by omega));by_cases hja:a<j
    ·have dj:=ZK (show a<j by omega)
     obtain⟨x,y,hx,hy,hAw⟩:=HI.out.two hja;have hl:=fun W (hW:Row c t (w.alloc (.cells #[.func (.func F) #[] lb,.func (.func f) #[] sb] 190)) g lj W)=>HLe.out W lj j (j-1) x y (xh.out.trans hW.off) HPj.out hx hy
     rw[show(((j-1:Nat):Int))=(j:Int)-1 from by omega]at hl;have HL:=AA hl;have HSt:=AA hAw;have HX:=AA hx;have HY:=AA hy;clear hl hAw hx hy;cases hlv:lt x y with
     |true=>
      rw[hlv]at HL;go_wp2_with fail
      refine(HL.out _ HRj.out).mono ?_;rintro e w2 ⟨rfl,hb2⟩;have HR2:=AA (HRj.out.below hb2);have c1:w2.cell? ⟨w.heap.size,1,none⟩=some (.func (.func f) #[] sb):=(HR2.out.box (Blk.new w _ _) (by omega)).cell 1;obtain⟨W3,xN,hAx⟩:=HSw.out w2 lj j (j-1) (xh.out.trans HR2.out.off) HLj.out (by omega) (by omega) (by omega);rw[show(((j-1:Nat):Int))=(j:Int)-1 from by omega]at xN;have HR3:=AA (HR2.out.trans hAx);clear hAx hb2;go_wp2;go_roundw
      case rel=>exact⟨j-1,Ci lj j (j-1),by go_num,by omega,by omega,HR3.out,HSt.out hlv⟩
      case measure=>simp[intOf];omega
     |false=>
      rw[hlv]at HL;go_wp2_with fail
      refine(HL.out _ HRj.out).mono ?_;rintro e w2 ⟨rfl,hb2⟩;have HR2:=AA (HRj.out.below hb2);clear hb2;go_wp2;go_roundw
      case rel=>exact⟨i+1,lj,by go_num,by omega,by omega,HR2.out,HKj.out,HI.out.done HO.out (.inr ⟨x,y,HX.out,HY.out,hlv⟩)⟩
      case measure=>simp[intOf];omega
    ·have dj:=ZL (show j<=a by omega)
     go_wp2;go_roundw
     case rel=>exact⟨i+1,lj,by go_num,by omega,by omega,HRj.out,HKj.out,HI.out.done HO.out (.inl (by omega))⟩
     case measure=>simp[intOf];omega
  ·have di:=ZL (show b<=i by omega)
   go_wp2;go_end0;refine⟨rfl,l',HR.out.off,HK.out,?_⟩;rcases Nat.lt_or_ge b i with h|h
   ·rw[Bz l' (.inr (by omega))];exact Asc.nil
   ·have e:b=i:=by omega
    rw[e];exact HS.out
end
structure Be (α:Type) where
 enc:α->List Value
 tail:List Value
section
variable {α:Type}{c:Be α}{t:TypeId}{w0:World}{g n f F:Nat}{sb lb:Array Value}{lt:α->α->Bool}{l0:List α}
structure B3 (c:Be α)(t:TypeId)(w0:World)(g:Nat)(l:List α)(w:World):Prop where
 blk:Blk w g t (l.flatMap c.enc++c.tail).toArray
 kept:w0.grownBy w (some g)
theorem B3.self{l:List α}{w:World}(h:Blk w g t (l.flatMap c.enc++c.tail).toArray):B3 c t w g l w:=⟨h,Am w g⟩
theorem B3.trans{l l':List α}{w w':World}(h:B3 c t w0 g l w)(h':B3 c t w g l' w'):B3 c t w0 g l' w':=⟨h'.blk,h.kept.trans h'.kept⟩
theorem B3.alloc{l:List α}{w:World}(h:B3 c t w0 g l w)(o:Obj):B3 c t w0 g l (w.alloc o):=⟨h.blk.alloc o,Bt h.kept o⟩
theorem B3.below{l:List α}{w w':World}(h:B3 c t w0 g l w)(hb:ZN w w'):B3 c t w0 g l w':=
 ⟨h.blk.below hb h.blk.lt,h.kept.trans ⟨hb.os,hb.tape,hb.output,hb.size,fun i hi _=>hb.block i hi⟩⟩
theorem B3.off{l:List α}{w w':World}{o:Obj}(h:B3 c t (w.alloc o) g l w'):B3 c t w g l w':=⟨h.blk,(E4 w o (some g)).trans h.kept⟩
theorem B3.box{l:List α}{w:World}{k:Nat}{tb:TypeId}{cs:Array Value}(h:B3 c t w0 g l w)(hB:Blk w0 k tb cs)(hk:k≠g):Blk w k tb cs:=hB.kept h.kept (by simpa using hk)
def G9(c:Be α)(t:TypeId)(w0:World)(g:Nat)(l0:List α)(lt:α->α->Bool)(f:Nat)(lb:Array Value):Prop:=
 ∀(W:World) (l:List α) (i j:Nat) (x y:α),B3 c t w0 g l W->l.Perm l0->l[i]? =some x->l[j]? =some y->
  Calls prog f (#[.int .i64 (i:Int),.int .i64 (j:Int)]++lb) W fun e w'=>e= .returned (.bool (lt x y))/\ZN W w'
def RE(c:Be α)(t:TypeId)(w0:World)(g n:Nat)(f:Nat)(sb:Array Value):Prop:=
 ∀(W:World) (l:List α) (i j:Nat),B3 c t w0 g l W->l.length=n->i<n->j<n->2<=n->
  ∃W',(callFunc f (#[.int .i64 (i:Int),.int .i64 (j:Int)]++sb)).run prog W= .ok (.value (.tuple #[])) W'/\∃l',l'.Perm l/\B3 c t W g l' W'
structure Srt (c:Be α)(t:TypeId)(w0:World)(g n f F:Nat)(sb lb:Array Value)(lt:α->α->Bool)(l0:List α):Prop where
 eg:∀args w,(callFunc F args).run prog w= .ok (.enter F args) w
 le:G9 c t w0 g l0 lt F lb
 sw:RE c t w0 g n f sb
 len:l0.length=n
 small:n<=1000000
def BG(c:Be α)(t:TypeId)(g:Nat)(l0:List α)(B V:World):Prop:=∃l',B3 c t B g l' V/\l'.Perm l0
theorem BG.trans{A B V:World}(h:BG c t g l0 A B)(h':BG c t g l0 B V):BG c t g l0 A V:=by
 obtain⟨l,h1,_⟩:=h;obtain⟨l',h2,h3⟩:=h';exact⟨l',h1.trans h2,h3⟩
theorem BG.self{A B:World}(h:BG c t g l0 A B):BG c t g l0 B B:=by
 obtain⟨l,h1,h2⟩:=h;exact⟨l,B3.self h1.blk,h2⟩
theorem BG.glt{A B:World}(h:BG c t g l0 A B):g<B.heap.size:=by
 obtain⟨l,h1,_⟩:=h;exact h1.blk.lt
theorem BG.alloc{A B:World}(h:BG c t g l0 A B)(o:Obj):BG c t g l0 A (B.alloc o):=by
 obtain⟨l,h1,h2⟩:=h;exact⟨l,h1.alloc o,h2⟩
theorem BG.off{A V:World}{o:Obj}(h:BG c t g l0 (A.alloc o) V):BG c t g l0 A V:=by
 obtain⟨l,h1,h2⟩:=h;exact⟨l,h1.off,h2⟩
theorem BG.below{A V W:World}(h:BG c t g l0 A V)(hb:ZN V W):BG c t g l0 A W:=by
 obtain⟨l,h1,h2⟩:=h;exact⟨l,h1.below hb,h2⟩
theorem BG.box{A V:World}(h:BG c t g l0 A V){k:Nat}{tb:TypeId}{cs:Array Value}(hB:Blk A k tb cs)(hk:k≠g):Blk V k tb cs:=by
 obtain⟨l,h1,_⟩:=h;exact h1.box hB hk
theorem BG.size{A V:World}(h:BG c t g l0 A V):A.heap.size<=V.heap.size:=by
 obtain⟨l,h1,_⟩:=h;exact h1.kept.size
theorem Srt.less{B V:World}(H:Srt c t w0 g n f F sb lb lt l0)(hB:BG c t g l0 w0 B)(hV:BG c t g l0 B V)(i j:Nat)(hi:i<n)(hj:j<n):Calls prog F (#[.int .i64 (i:Int),.int .i64 (j:Int)]++lb) V fun e w'=>∃k,e= .returned (.bool k)/\BG c t g l0 B w':=by
 obtain⟨l,h1,h2⟩:=hV;obtain⟨m,h3,_⟩:=hB;have hl:l.length=n:=h2.length_eq.trans H.len;obtain⟨x,hx⟩:∃x,l[i]? =some x:=⟨_,AD (by omega)⟩;obtain⟨y,hy⟩:∃y,l[j]? =some y:=⟨_,AD (by omega)⟩;refine(H.le V l i j x y (h3.trans h1) h2 hx hy).mono ?_;rintro e w' ⟨rfl,hb⟩;exact⟨_,rfl,l,h1.below hb,h2⟩
theorem Srt.swap{B V:World}(H:Srt c t w0 g n f F sb lb lt l0)(hB:BG c t g l0 w0 B)(hV:BG c t g l0 B V)(i j:Nat)(hi:i<n)(hj:j<n)(hn2:2<=n):∃W',(callFunc f (#[.int .i64 (i:Int),.int .i64 (j:Int)]++sb)).run prog V= .ok (.value (.tuple #[])) W'/\BG c t g l0 B W':=by
 obtain⟨l,h1,h2⟩:=hV;obtain⟨m,h3,_⟩:=hB;obtain⟨W',hr,l',hp,hw⟩:=H.sw V l i j (h3.trans h1) (h2.length_eq.trans H.len) hi hj hn2;exact⟨W',hr,l',h1.trans hw,hp.trans h2⟩
theorem Iv(H:Srt c t w0 g n f F sb lb lt l0)(lo hi first:Nat)(w:World)(hw:BG c t g l0 w0 w)(hh:first+hi<=n)(hlo:lo<=n):Calls prog 267 #[.agg #[.func (.func F) #[] lb,.func (.func f) #[] sb],.int .i64 (lo:Int),.int .i64 (hi:Int),.int .i64 (first:Int)] w fun e w'=>e= .returned (.tuple #[])/\BG c t g l0 w w':=by
 have HH:=AA H;have hgw:g<w.heap.size:=hw.glt;obtain⟨B,hB⟩:=ZH (w.alloc (.cells #[.func (.func F) #[] lb,.func (.func f) #[] sb] 190));have h0B:BG c t g l0 w0 B:=by rw[hB];exact hw.alloc _
 have hBB:BG c t g l0 B B:=h0B.self;have hBx:Blk B w.heap.size 190 #[.func (.func F) #[] lb,.func (.func f) #[] sb]:=by rw[hB];exact Blk.new _ _ _
 have yH:Hid (∀V,BG c t g l0 B V->BG c t g l0 w V):=fun V h=>by rw[hB]at h;exact h.off
 have HB0:=AA h0B;have HC:Hid (∀V,BG c t g l0 B V->V.cell? ⟨w.heap.size,0,none⟩=some (.func (.func F) #[] lb)/\V.cell? ⟨w.heap.size,1,none⟩=some (.func (.func f) #[] sb)):=fun V h=>⟨(h.box hBx (by omega)).cell 0,(h.box hBx (by omega)).cell 1⟩
 have eg:=H.eg;have hn6:=H.small;have HW:=AA hB;have HBB:=AA hBB;clear hw hB h0B hBB hBx H;go_enter func267,ntmps267;go_upto_region 1 with fail
 simp only[<-HW.out];go_upto_region 2 with fail
 go_loopw [8] (fun rv wr=>∃r:Nat,rv= .int .i64 (r:Int)/\r<=n/\Hid (BG c t g l0 B wr)) (fun rv _=>n-(intOf rv).toNat)
 case atStart=>exact⟨lo,rfl,hlo,HBB⟩
 case round=>
  obtain⟨r,rfl,hr,HP⟩:=hrel;obtain⟨c0,c1⟩:=HC.out _ HP.out;by_cases h1:2*r+1<hi
  ·have d1:decide ((hi:Int)<=2*(r:Int)+1)=false:=by simp;omega
   by_cases h2:2*r+1+1<hi
   ·have d2:decide (2*(r:Int)+1+1<(hi:Int))=true:=by simp;omega
    go_wp2_with fail
    have hl:=HH.out.less HB0.out HP.out (first+(2*r+1)) (first+(2*r+1)+1) (by omega) (by omega);try push_cast at hl
    refine hl.mono ?_;clear hl;rintro en w4 ⟨k4,rfl,hp⟩;have HP4:=AA hp;obtain⟨c0,c1⟩:=HC.out _ hp;clear hp;cases k4 with
    |true=>
     go_wp2_with fail
     have hl:=HH.out.less HB0.out HP4.out (first+r) (first+(2*r+1+1)) (by omega) (by omega);try push_cast at hl
     refine hl.mono ?_;clear hl;rintro en w5 ⟨k5,rfl,hp⟩;have HP5:=AA hp;obtain⟨c0,c1⟩:=HC.out _ hp;clear hp;cases k5 with
     |false=>
      go_wp2
      first
       |go_end0
       |refine bodyPost_ret (results_none rfl _ _ _) rfl ?_
      exact⟨rfl,yH.out _ HP5.out⟩
     |true=>
      obtain⟨w6,xN,hp⟩:=HH.out.swap HB0.out HP5.out (first+r) (first+(2*r+1+1)) (by omega) (by omega) (by omega);try push_cast at xN
      have HP6:=AA hp;obtain⟨c0',c1'⟩:=HC.out _ hp;clear hp;go_wp2;go_roundw
      case rel=>exact⟨2*r+1+1,by go_num,by omega,HP6⟩
      case measure=>simp[intOf];omega
    |false=>
     go_wp2_with fail
     have hl:=HH.out.less HB0.out HP4.out (first+r) (first+(2*r+1)) (by omega) (by omega);try push_cast at hl
     refine hl.mono ?_;clear hl;rintro en w5 ⟨k5,rfl,hp⟩;have HP5:=AA hp;obtain⟨c0,c1⟩:=HC.out _ hp;clear hp;cases k5 with
     |false=>
      go_wp2
      first
       |go_end0
       |refine bodyPost_ret (results_none rfl _ _ _) rfl ?_
      exact⟨rfl,yH.out _ HP5.out⟩
     |true=>
      obtain⟨w6,xN,hp⟩:=HH.out.swap HB0.out HP5.out (first+r) (first+(2*r+1)) (by omega) (by omega) (by omega);try push_cast at xN
      have HP6:=AA hp;obtain⟨c0',c1'⟩:=HC.out _ hp;clear hp;go_wp2;go_roundw
      case rel=>exact⟨2*r+1,by go_num,by omega,HP6⟩
      case measure=>simp[intOf];omega
   ·have d2:decide (2*(r:Int)+1+1<(hi:Int))=false:=by simp;omega
    go_wp2_with fail
    have hl:=HH.out.less HB0.out HP.out (first+r) (first+(2*r+1)) (by omega) (by omega);try push_cast at hl
    refine hl.mono ?_;clear hl;rintro en w5 ⟨k5,rfl,hp⟩;have HP5:=AA hp;obtain⟨c0,c1⟩:=HC.out _ hp;clear hp;cases k5 with
    |false=>
     go_wp2
     first
      |go_end0
      |refine bodyPost_ret (results_none rfl _ _ _) rfl ?_
     exact⟨rfl,yH.out _ HP5.out⟩
    |true=>
     obtain⟨w6,xN,hp⟩:=HH.out.swap HB0.out HP5.out (first+r) (first+(2*r+1)) (by omega) (by omega) (by omega);try push_cast at xN
     have HP6:=AA hp;obtain⟨c0',c1'⟩:=HC.out _ hp;clear hp;go_wp2;go_roundw
     case rel=>exact⟨2*r+1,by go_num,by omega,HP6⟩
     case measure=>simp[intOf];omega
  ·have d1:decide ((hi:Int)<=2*(r:Int)+1)=true:=by simp;omega
   go_wp2
   first
    |go_end0
    |refine bodyPost_ret (results_none rfl _ _ _) rfl ?_
   exact⟨rfl,yH.out _ HP.out⟩
end
end
section
open Go.Shelf
def LC:Ren:=
{
 f:=fun x=>
  match x with
  |6=>116
  |10=>120
  |11=>121
  |12=>123
  |13=>168
  |14=>169
  |24=>227
  |25=>228
  |26=>179
  |27=>229
  |28=>230
  |29=>231
  |30=>232
  |31=>233
  |32=>234
  |33=>235
  |34=>267
  |35=>268
  |36=>269
  |37=>270
  |38=>271
  |39=>279
  |n=>n,
 t:=fun x=>
  match x with
  |20=>20
  |26=>147
  |35=>184
  |0=>0
  |37=>186
  |3=>3
  |41=>53
  |44=>190
  |49=>130
  |51=>55
  |4=>4
  |54=>272
  |53=>271
  |58=>252
  |5=>5
  |9=>9
  |60=>297
  |64=>301
  |66=>307
  |67=>308
  |17=>17
  |32=>181
  |33=>182
  |82=>323
  |12=>12
  |75=>316
  |76=>317
  |77=>318
  |78=>319
  |79=>320
  |80=>321
  |n=>n,
 g:=fun n=>n}
theorem JO:LaysGg.n6 prog LC where
 mixed:=by kernel_rfl
 f6:=Eq.trans func116 (by kernel_rfl)
 f10:=Eq.trans func120 (by kernel_rfl)
 f11:=Eq.trans func121 (by kernel_rfl)
 f12:=Eq.trans func123 (by kernel_rfl)
 f13:=Eq.trans func168 (by kernel_rfl)
 f14:=Eq.trans func169 (by kernel_rfl)
 f24:=Eq.trans func227 (by kernel_rfl)
 f25:=Eq.trans func228 (by kernel_rfl)
 f26:=Eq.trans func179 (by kernel_rfl)
 f27:=Eq.trans func229 (by kernel_rfl)
 f28:=Eq.trans func230 (by kernel_rfl)
 f29:=Eq.trans func231 (by kernel_rfl)
 f30:=Eq.trans func232 (by kernel_rfl)
 f31:=Eq.trans func233 (by kernel_rfl)
 f32:=Eq.trans func234 (by kernel_rfl)
 f33:=Eq.trans func235 (by kernel_rfl)
 f34:=Eq.trans func267 (by kernel_rfl)
 f35:=Eq.trans func268 (by kernel_rfl)
 f36:=Eq.trans func269 (by kernel_rfl)
 f37:=Eq.trans func270 (by kernel_rfl)
 f38:=Eq.trans func271 (by kernel_rfl)
 f39:=Eq.trans func279 (by kernel_rfl)
 t0:=underlying0
 a0:=isAgg0
 z0:=sizeOf0
 v0:=zeroValue0
 i0:=by kernel_rfl
 t3:=underlying3
 a3:=isAgg3
 z3:=sizeOf3
 v3:=zeroValue3
 i3:=by kernel_rfl
 t4:=underlying4
 a4:=isAgg4
 z4:=sizeOf4
 v4:=zeroValue4
 i4:=by kernel_rfl
 t5:=underlying5
 a5:=isAgg5
 z5:=sizeOf5
 v5:=zeroValue5
 i5:=by kernel_rfl
 t9:=underlying9
 a9:=isAgg9
 z9:=sizeOf9
 v9:=zeroValue9
 i9:=by kernel_rfl
 t12:=underlying12
 a12:=isAgg12
 z12:=sizeOf12
 v12:=zeroValue12
 i12:=by kernel_rfl
 t17:=underlying17
 a17:=isAgg17
 z17:=sizeOf17
 v17:=zeroValue17
 i17:=by kernel_rfl
 t20:=underlying20
 a20:=isAgg20
 z20:=sizeOf20
 v20:=zeroValue20
 i20:=by kernel_rfl
 t26:=underlying147
 a26:=isAgg147
 z26:=sizeOf147
 v26:=zeroValue147
 i26:=by kernel_rfl
 t32:=underlying181
 a32:=isAgg181
 z32:=sizeOf181
 v32:=zeroValue181
 i32:=by kernel_rfl
 t33:=underlying182
 a33:=isAgg182
 z33:=sizeOf182
 v33:=zeroValue182
 i33:=by kernel_rfl
 t35:=underlying184
 a35:=isAgg184
 z35:=sizeOf184
 v35:=zeroValue184
 i35:=by kernel_rfl
 t37:=underlying186
 a37:=isAgg186
 z37:=sizeOf186
 v37:=zeroValue186
 i37:=by kernel_rfl
 t41:=underlying53
 a41:=isAgg53
 z41:=sizeOf53
 v41:=zeroValue53
 i41:=by kernel_rfl
 t44:=underlying190
 a44:=isAgg190
 z44:=sizeOf190
 v44:=zeroValue190
 i44:=by kernel_rfl
 t49:=underlying130
 a49:=isAgg130
 z49:=sizeOf130
 v49:=zeroValue130
 i49:=by kernel_rfl
 t51:=underlying55
 a51:=isAgg55
 z51:=sizeOf55
 v51:=zeroValue55
 i51:=by kernel_rfl
 t53:=underlying271
 a53:=isAgg271
 z53:=sizeOf271
 v53:=zeroValue271
 i53:=by kernel_rfl
 t54:=underlying272
 a54:=isAgg272
 z54:=sizeOf272
 v54:=zeroValue272
 i54:=by kernel_rfl
 t58:=underlying252
 a58:=isAgg252
 z58:=sizeOf252
 v58:=zeroValue252
 i58:=by kernel_rfl
 t60:=underlying297
 a60:=isAgg297
 z60:=sizeOf297
 v60:=zeroValue297
 i60:=by kernel_rfl
 t64:=underlying301
 a64:=isAgg301
 z64:=sizeOf301
 v64:=zeroValue301
 i64:=by kernel_rfl
 t66:=underlying307
 a66:=isAgg307
 z66:=sizeOf307
 v66:=zeroValue307
 i66:=by kernel_rfl
 t67:=underlying308
 a67:=isAgg308
 z67:=sizeOf308
 v67:=zeroValue308
 i67:=by kernel_rfl
 t75:=underlying316
 a75:=isAgg316
 z75:=sizeOf316
 v75:=zeroValue316
 i75:=by kernel_rfl
 t76:=underlying317
 a76:=isAgg317
 z76:=sizeOf317
 v76:=zeroValue317
 i76:=by kernel_rfl
 t77:=underlying318
 a77:=isAgg318
 z77:=sizeOf318
 v77:=zeroValue318
 i77:=by kernel_rfl
 t78:=underlying319
 a78:=isAgg319
 z78:=sizeOf319
 v78:=zeroValue319
 i78:=by kernel_rfl
 t79:=underlying320
 a79:=isAgg320
 z79:=sizeOf320
 v79:=zeroValue320
 i79:=by kernel_rfl
 t80:=underlying321
 a80:=isAgg321
 z80:=sizeOf321
 v80:=zeroValue321
 i80:=by kernel_rfl
 t82:=underlying323
 a82:=isAgg323
 z82:=sizeOf323
 v82:=zeroValue323
 i82:=by kernel_rfl
end
section
open Go.RowKit Go.Shelf Go.Sort
theorem SR{α:Type}(l:List α)(i j:Nat)(hij:i<j)(hj:j<l.length):∃(P M S:List α) (x y:α),l=P++x::(M++y::S)/\P.length=i/\P.length+1+M.length=j:=by
 have e1:l.drop i=l[i]::l.drop (i+1):=List.drop_eq_getElem_cons _;have e3:(l.drop (i+1)).drop (j-i-1)=l[j]::l.drop (j+1):=by
  rw[List.drop_drop,show i+1+(j-i-1)=j from by omega];exact List.drop_eq_getElem_cons _
 refine⟨l.take i,(l.drop (i+1)).take (j-i-1),l.drop (j+1),l[i],l[j],?_,by simp;omega,by simp;omega⟩;rw[<-e3,An,<-e1,An]
theorem P7{α:Type}(l:List α)(i j:Nat)(hi:i<l.length)(hj:j<l.length):(Ci l i j).Perm l:=by
 have key:∀(l:List α) (i j:Nat),i<j->j<l.length->(Ci l i j).Perm l:=fun l i j hij hj=>by
  obtain⟨P,M,S,x,y,e,h1,h2⟩:=SR l i j hij hj;rw[e,<-h2,<-h1,Gm];refine List.Perm.append_left P ?_;exact((List.perm_middle).cons y).trans ((List.Perm.swap x y _).trans ((List.perm_middle).symm.cons x))
 rcases Nat.lt_trichotomy i j with h|h|h
 ·exact key l i j h hj
 ·subst h;unfold Ci;rw[AD hi];simp
 ·rw[K8];exact key l j i h hi
section
variable {α:Type}[Inhabited α](n cap:Nat)
structure Lit (enc:α->List Value)(m:Nat)(e:TypeId)(f:Nat)(gS:Bool):Prop where
 hx:∀args W,(callFunc f args).run prog W=((Extern.ReflectliteSwapper.swap gS args).run prog W).andThen fun v w'=>.ok (.value v) w'
 ie:∃ie:TypeInfo,prog.info? e=some ie/\ie.size=m
 agg:∀w,(isAgg e).run prog w= .ok true w
 len:∀x,(enc x).length=m
 one:∀x,∀v∈enc x,v.oneCell'=true
omit [Inhabited α]in
theorem M9{enc:α->List Value}{m g:Nat}{e:TypeId}{f:Nat}{gS:Bool}(H:Lit enc m e f gS)(W:World)(l:List α)(i j:Nat)(hi:i<l.length)(hj:j<l.length)(hin:i<n)(hjn:j<n)(xH:∀(k u:Nat) (z:α) (v:Value),l[k]? =some z->(enc z)[u]? =some v->W.cell? ⟨g,0+k*m+u,none⟩=some v)(hfr:∀k,k<l.length->∀u,u<m->W.frozen? ⟨g,0+k*m+u,none⟩=false):(callFunc f (#[.int .i64 (i:Int),.int .i64 (j:Int)]++#[.slice (some ⟨g,0,none⟩) n cap,typeHandle prog e])).run prog W= .ok (.value (.tuple #[])) ((W.setCells g (0+i*m) (enc l[j])).setCells g (0+j*m) (enc l[i])):=by
 obtain⟨ie,hie,hsz⟩:=H.ie;subst hsz;have xN:=Lib.run_swap_cells (P:=prog) gS e ie hie H.agg g 0 n cap i j hin hjn (enc l[i]) (enc l[j]) (H.len _) (H.len _) (H.one _) (H.one _) W (fun u v hv=>xH i u _ v (AD hi) hv) (fun u v hv=>xH j u _ v (AD hj) hv)
  (fun u hu=>hfr i hi u hu) (fun u hu=>hfr j hj u hu)
 rw[H.hx,show(#[Value.int .i64 (i:Int),Value.int .i64 (j:Int)]++#[Value.slice (some ⟨g,0,none⟩) n cap,typeHandle prog e])=#[.int .i64 i,.int .i64 j,.slice (some ⟨g,0,none⟩) n cap,typeHandle prog e]from rfl,xN];rfl
omit [Inhabited α]in
theorem Ek{c:Be α}{m:Nat}{t:TypeId}{g:Nat}{W:World}{l:List α}(hm:∀x,(c.enc x).length=m)(hb:Blk W g t (l.flatMap c.enc++c.tail).toArray)(k u:Nat)(z:α)(v:Value)(hz:l[k]? =some z)(hv:(c.enc z)[u]? =some v):W.cell? ⟨g,0+k*m+u,none⟩=some v:=by
 have hu:u<m:=by rw[<-hm z];exact(AE.1 hv).1
 have h1:=B4 c.enc m l (fun x _=>hm x) k u z hz hu;rw[hv]at h1;rw[hb.cell,Nat.zero_add,List.getElem?_toArray,List.getElem?_append_left (AE.1 h1).1,h1]
omit [Inhabited α]in
theorem Iw{c:Be α}{m:Nat}{t:TypeId}{g:Nat}{W:World}{l:List α}(hm:∀x,(c.enc x).length=m)(hb:Blk W g t (l.flatMap c.enc++c.tail).toArray)(i:Nat)(x:α)(hi:i<l.length):Blk (W.setCells g (i*m) (c.enc x)) g t ((l.set i x).flatMap c.enc++c.tail).toArray/\W.grownBy (W.setCells g (i*m) (c.enc x)) (some g):=by
 have hlen:=AY c.enc m l (fun x _=>hm x);have bi:i*m+m<=l.length*m:=by
  have:=Nat.mul_le_mul_right m (show i+1<=l.length by omega);rwa[Nat.succ_mul]at this
 obtain⟨b1,k1⟩:=DD g t (c.enc x) (i*m) W _ hb (by rw[hm,AF,hlen];omega);refine⟨?_,k1⟩;rw[hm,List.take_append_of_le_length (by rw[hlen];omega),List.drop_append_of_le_length (by rw[hlen];omega),<-List.append_assoc,<-GN c.enc m l (fun x _=>hm x) i x hi]at b1;exact b1
omit [Inhabited α]in
theorem Jq{c:Be α}{m g:Nat}{e:TypeId}{f:Nat}{gS:Bool}(H:Lit c.enc m e f gS)(t:TypeId)(w0:World):RE c t w0 g n f #[.slice (some ⟨g,0,none⟩) n cap,typeHandle prog e]:=by
 intro W l i j hr hn hi hj _;have hi':i<l.length:=by omega
 have hj':j<l.length:=by omega
 have hm:=H.len;have xN:=M9 (g:=g) (n:=n) (cap:=cap) H W l i j hi' hj' hi hj (fun k u z v=>Ek hm hr.blk k u z v) (fun k _ u _=>hr.blk.frozen _);obtain⟨b1,k1⟩:=Iw hm hr.blk i l[j] hi';obtain⟨b2,k2⟩:=Iw hm b1 j l[i] (by rw[List.length_set];exact hj');refine⟨_,by rw[xN,Nat.zero_add,Nat.zero_add],Ci l i j,P7 l i j hi' hj',?_,k1.trans k2⟩;unfold Ci;rw[AD hi',AD hj'];exact b2
/-! ### The kit's row and ours -/
theorem RF{enc:α->List Value}{m:Nat}(hm:∀x,(enc x).length=m)(hm0:0<m)(l:List α):flatK enc m l.toArray=(l.flatMap enc).toArray:=by
 have hl:=AY enc m l (fun x _=>hm x);refine ext_get! (by simp[hl]) fun u hu=>?_
 have hu':u<l.toArray.size*m:=by simpa using hu
 rw[get_flatK enc m l.toArray u hu'];have h1:u/m<l.length:=by
  rw[Nat.div_lt_iff_lt_mul hm0];simpa using hu'
 have h2:u%m<m:=Nat.mod_lt _ hm0;have h3:=B4 enc m l (fun x _=>hm x) (u/m) (u%m) l[u/m] (AD h1) h2;rw[Nat.div_add_mod' u m]at h3;have hu2:u<(l.flatMap enc).length:=by rw[hl];simpa using hu'
 rw[AD hu2,AD (by rw[hm];exact h2)]at h3;rw[getElem!_pos l.toArray (u/m) (by simpa using h1),getElem!_pos (l.flatMap enc).toArray u (by simpa using hu2)];simp only[List.getElem_toArray];rw[getElem!_pos (enc l[u/m]) (u%m) (by rw[hm];exact h2)];exact(Option.some.inj h3).symm
theorem Uf{c:Be α}{m:Nat}(hm:∀x,(c.enc x).length=m)(hm0:0<m){W:World}{g:Nat}{t:TypeId}{l:List α}(hb:Blk W g t (l.flatMap c.enc++c.tail).toArray):HoldsK c.enc m W g 0 l.toArray:=by
 intro u hu;rw[RF hm hm0]at hu ⊢;refine⟨?_,hb.frozen _⟩;have hu2:u<(l.flatMap c.enc).length:=by simpa using hu
 rw[hb.cell,Nat.zero_add,getElem!_pos (l.flatMap c.enc).toArray u hu,List.getElem?_toArray,List.getElem?_append_left hu2,AD hu2];rfl
theorem Lr{c:Be α}{m:Nat}(hm:∀x,(c.enc x).length=m)(hm0:0<m){W:World}{g:Nat}{t:TypeId}{l l':List α}(hb:Blk W g t (l.flatMap c.enc++c.tail).toArray)(hl:l'.length=l.length)(k:Nat)(os:Array Obj):B3 c t W g l' (sortWorldK c.enc m W g 0 k l'.toArray os):=by
 have e:(l'.flatMap c.enc).length=(l.flatMap c.enc).length:=by rw[AY c.enc m l' (fun x _=>hm x),AY c.enc m l (fun x _=>hm x),hl]
 unfold sortWorldK putRowK;rw[RF hm hm0];have hg:g<W.heap.size:=hb.lt;refine⟨?_,rfl,rfl,rfl,by simp,fun i hi hne=>?_⟩
 ·show(grow (putRow id (Sort.ahead W k) g 0 (l'.flatMap c.enc).toArray) os).heap[g]? =_;rw[heap_grow_old _ _ (by simpa using hg)];have hb':W.heap[g]? =some (.cells (l.flatMap c.enc++c.tail).toArray t (0,0)):=hb;simp only[putRow,mapBlock,Sort.ahead,Array.getElem?_modify,hb',onCells,if_true,Option.map_some];congr 2;apply Array.ext
  ·simp[putCells,e]
  ·intro u h1 h2;simp only[putCells,Array.getElem_mapIdx,Nat.zero_le,true_and,Nat.zero_add,Nat.sub_zero,id,List.getElem_toArray];by_cases hu:u<(l'.flatMap c.enc).length
   ·rw[if_pos (by simpa using hu),getElem!_pos (l'.flatMap c.enc).toArray u (by simpa using hu),List.getElem_append_left hu];rfl
   ·rw[if_neg (by simpa using hu),List.getElem_append_right (by omega),List.getElem_append_right (by omega)];simp only[e]
 ·rw[heap_grow_old _ _ (by simpa using hi)];have:g≠i:=fun e=>hne (by rw[e])
  simp[putRow,mapBlock,Sort.ahead,Array.getElem?_modify,this]
def Wr(c:Be α)(t:TypeId)(w0:World)(g n f F:Nat)(sb lb:Array Value)(l0:List α):Prop:=
 ∀(a b:Nat) (w:World),BG c t g l0 w0 w->a+12<b->b<=n->
  Calls prog 230 #[.agg #[.func (.func F) #[] lb,.func (.func f) #[] sb],.int .i64 (a:Int),.int .i64 (b:Int)] w fun e w'=>e= .returned (.tuple #[])/\BG c t g l0 w w'
theorem RG{c:Be α}{m g:Nat}{e:TypeId}{f:Nat}{gS:Bool}(H:Lit c.enc m e f gS)(hm0:0<m)(t:TypeId)(w0:World)(F:Nat)(lb:Array Value)(l0:List α)(hn:l0.length=n)(hsm:n<=1000000):Wr c t w0 g n f F #[.slice (some ⟨g,0,none⟩) n cap,typeHandle prog e] lb l0:=by
 intro a b w hw hab' hb;have hab:a<=b:=by omega
 obtain⟨l,h1,h2⟩:=hw;have hl:l.length=n:=h2.length_eq.trans hn;have hm:=H.len;have hS:SwapSwapsK prog f #[.slice (some ⟨g,0,none⟩) n cap,typeHandle prog e] c.enc m g 0 l.toArray.size:=by
  intro W dk hk hs i j hi hj;simp only[List.size_toArray]at hs hi hj;have hi':i<dk.toList.length:=by simpa[hs]using hi
  have hj':j<dk.toList.length:=by simpa[hs]using hj
  have key:∀(k u:Nat),k<dk.toList.length->u<m->W.cell? ⟨g,0+k*m+u,none⟩=(c.enc dk.toList[k]!)[u]?/\W.frozen? ⟨g,0+k*m+u,none⟩=false:=fun k u hk' hu=>by
   have hkd:k<dk.size:=by simpa using hk'
   have hlt:k*m+u<dk.size*m:=by
    have:=Nat.mul_le_mul_right m (show k+1<=dk.size by omega);rw[Nat.succ_mul]at this;omega
   have h:=hk (k*m+u) (by simpa using hlt);have hd:(k*m+u)/m=k:=by rw[Nat.add_comm,Nat.add_mul_div_right _ _ hm0,Nat.div_eq_of_lt hu,Nat.zero_add]
   have hmo:(k*m+u)%m=u:=by rw[Nat.add_comm,Nat.add_mul_mod_self_right,Nat.mod_eq_of_lt hu]
   rw[get_flatK c.enc m dk _ hlt,hd,hmo]at h;rw[Nat.add_assoc];refine⟨h.1.trans ?_,h.2⟩;have e1:dk[k]! =dk.toList[k]!:=by rw[getElem!_pos dk k hkd,getElem!_pos dk.toList k hk'];rfl
   rw[e1,getElem!_pos (c.enc dk.toList[k]!) u (by rw[hm];exact hu),AD (by rw[hm];exact hu)];rfl
  have xN:=M9 (g:=g) (n:=n) (cap:=cap) H W dk.toList i j hi' hj' (by omega) (by omega)
   (fun k u z v hz hv=>by
    have hk':=(AE.1 hz).1;have hu:u<m:=by rw[<-hm z];exact(AE.1 hv).1
    have ez:dk.toList[k]! =z:=by rw[getElem!_pos dk.toList k hk'];exact(AE.1 hz).2
    rw[(key k u hk' hu).1,ez,hv]) (fun k hk' u hu=>(key k u hk' hu).2)
  rw[xN,getElem!_pos dk j (by simpa using hj'),getElem!_pos dk i (by simpa using hi')];rfl
 have hH:HoldsK c.enc m w g 0 l.toArray:=Uf hm hm0 h1.blk;refine(Any.breakPatterns_func_cells_w {JO with} c.enc m hm (.func F) #[] lb f #[.slice (some ⟨g,0,none⟩) n cap,typeHandle prog e] g 0 a b l.toArray w hS hH h1.blk.lt hab (by simp;omega) (by simp;omega)).mono ?_;rintro e w' ⟨rfl,k,os,rfl⟩;have hp:=breakPatterns_holds l.toArray a b hab (by simp;omega);refine⟨rfl,(breakPatterns l.toArray a b).toList,?_,?_⟩
 ·have hsz:(breakPatterns l.toArray a b).toList.length=l.length:=by
   have:=hp.1;simpa using this
  have:=Lr hm hm0 h1.blk hsz k os;simpa using this
 ·have hq:=permIn_mono l.toArray (breakPatterns l.toArray a b) a b 0 l.toArray.size (Nat.zero_le _) (by simp;omega) (AB _) hp;have h3:=hq.2.2;rw[Array.extract_size,<-hq.1,Array.extract_size]at h3;exact h3.trans h2
end
end
end Go.Proofs.YtadllffeoibelaaGreat
