/-
  What these parts of the proof come to, functions walked and plain laws: FactA, FactB, FactC, FactD, Base, Mem, Mem2, Mem3, MapK. No condition.
-/
import Derived.Test.YtadllffeoibelaaGreatRows
import Derived.JoinedOf
import Derived.Test.YtadllffeoibelaaGreatProg
import Derived.WalkKit
import Derived.WalkLawsBesides
import Derived.WalkSpells
import Derived.Laws.StructEq
import Derived.Laws.BitsAllLaws
import Derived.Laws.BitsLemmas
import Derived.Below
import Derived.Deep.Draws
import Derived.Laws.OwnMore
import Derived.Laws.Rows
import Derived.Deep.AppendLies
import Derived.Deep.MidRow
import Derived.Lib.Hide
import Derived.Maps.AppendAt
import Derived.Deep.RegionHeld3
import Derived.Deep.DrawnRows
import Derived.MapKept
import Derived.Test.YtadllffeoibelaaGreatS0
namespace Go.Proofs.YtadllffeoibelaaGreat
set_option maxRecDepth 100000
set_option maxHeartbeats 32000000
theorem MI:Tryz.prog.mayEnter=true:=by kernel_rfl
theorem MJ:(Rows.gameAgreesRow.lifted==Tryz.prog.liftsFinal)=true:=by kernel_rfl
theorem MK:(Tryz.prog.make==some Rows.gameAgreesRow.make)=true:=by kernel_rfl
theorem PI:laidOutB Tryz.prog=true:=by kernel_rfl
theorem PJ:mapsRowed Tryz.prog=true:=by kernel_rfl
theorem ML:Tryz.prog.stopsHeard=true:=by kernel_rfl
theorem Ax{a b:Bool}(ha:a=true)(hb:b=true):(a&&b)=true:=by rw[ha,hb];rfl
section
open Go.RowKit
abbrev B(b:UInt8):Value:=.int .u8 (b.toNat:Int)
abbrev I(n:Int):Value:=.int .i64 n
abbrev U(x:UInt64):Value:=.int .u64 (x.toNat:Int)
structure Nm where
 b0:UInt8
 b1:UInt8
 b2:UInt8
 b3:UInt8
 b4:UInt8
 b5:UInt8
 b6:UInt8
 b7:UInt8
 deriving DecidableEq
namespace Nm
def bytes(n:Nm):List UInt8:=[n.b0,n.b1,n.b2,n.b3,n.b4,n.b5,n.b6,n.b7]
abbrev val(n:Nm):Value:=.agg #[B n.b0,B n.b1,B n.b2,B n.b3,B n.b4,B n.b5,B n.b6,B n.b7]
abbrev zero:Nm:=⟨0,0,0,0,0,0,0,0⟩
end Nm
structure Vt where
 kind:Int
 slot:Int
 round:Int
 choice:Int
 signer:Int
 support:Int
 parent:Nm
 value:Nm
 deriving DecidableEq
namespace Vt
abbrev cells(v:Vt):Array Value:=#[I v.kind,I v.slot,I v.round,I v.choice,I v.signer,I v.support,
 B v.parent.b0,B v.parent.b1,B v.parent.b2,B v.parent.b3,B v.parent.b4,B v.parent.b5,B v.parent.b6,B v.parent.b7,
 B v.value.b0,B v.value.b1,B v.value.b2,B v.value.b3,B v.value.b4,B v.value.b5,B v.value.b6,B v.value.b7]
abbrev val(v:Vt):Value:=.agg v.cells
end Vt
theorem PK(x:UInt64):x.toNat<18446744073709551616:=x.toNat_lt
theorem FQ(x:UInt64):(BitVec.ofInt 64 (x.toNat:Int))=x.toBitVec:=by
 rw[BitVec.ofInt_natCast];simp[←UInt64.toNat_toBitVec]
theorem NM(x y:UInt64):bits .xor .u64 (x.toNat:Int) (y.toNat:Int)=((x^^^y).toNat:Int):=by
 show IntKind.u64.wrap ((BitVec.ofInt 64 (x.toNat:Int)^^^BitVec.ofInt 64 (y.toNat:Int)).toNat:Int)=_;rw[FQ,FQ,←UInt64.toBitVec_xor,UInt64.toNat_toBitVec,IntKind.wrap_u64];have:=PK (x^^^y);omega
theorem Tc(x y:UInt64):bits .or .u64 (x.toNat:Int) (y.toNat:Int)=((x|||y).toNat:Int):=by
 show IntKind.u64.wrap ((BitVec.ofInt 64 (x.toNat:Int)|||BitVec.ofInt 64 (y.toNat:Int)).toNat:Int)=_;rw[FQ,FQ,←UInt64.toBitVec_or,UInt64.toNat_toBitVec,IntKind.wrap_u64];have:=PK (x|||y);omega
theorem Td(x y:UInt64):IntKind.u64.wrap ((x.toNat:Int)+(y.toNat:Int))=((x+y).toNat:Int):=by
 rw[IntKind.wrap_u64,UInt64.toNat_add];omega
def Blk(w:World)(g:Nat)(t:TypeId)(cs:Array Value):Prop:=w.heap[g]? =some (.cells cs t (0,0))
section
variable {w w' w1:World}{g:Nat}{t:TypeId}{cs:Array Value}{B:Nat}
theorem Blk.lt(h:Blk w g t cs):g<w.heap.size:=lt_of_block h
theorem Blk.cell(h:Blk w g t cs)(i:Nat):w.cell? ⟨g,i,none⟩=cs[i]?:=cell_of_row w g i cs t (0,0) h
theorem Blk.frozen(h:Blk w g t cs)(i:Nat):w.frozen? ⟨g,i,none⟩=false:=frozen_of_row w g i cs t h
theorem Blk.new(w:World)(t:TypeId)(cs:Array Value):Blk (w.alloc (.cells cs t)) w.heap.size t cs:=heap_alloc_new w _
theorem Blk.drew(h:Blk w g t cs):Blk w.drew g t cs:=h
theorem Blk.alloc(h:Blk w g t cs)(o:Obj):Blk (w.alloc o) g t cs:=(Below.heap_alloc w o g h.lt).trans h
theorem Blk.put(h:Blk w g t cs)(i:Nat)(u:Value):Blk (w.setCell ⟨g,i,none⟩ u) g t (cs.setIfInBounds i u):=by
 unfold Blk at h ⊢;simp[World.setCell,Array.getElem?_modify,h]
theorem Blk.far(h:Blk w g t cs){p:Addr}(hp:g≠p.block)(u:Value):Blk (w.setCell p u) g t cs:=(Below.heap_setCell w p u g hp).trans h
theorem Blk.below(h:Blk w g t cs)(hb:Below B w w')(hg:g<B):Blk w' g t cs:=(hb.block g hg).trans h
theorem Blk.kept{row:Option Nat}(h:Blk w g t cs)(hb:w.grownBy w' row)(hg:some g≠row):Blk w' g t cs:=(hb.block g h.lt hg).trans h
end
theorem Ai(w:World)(g:Nat):w.grownBy w (some g):=⟨rfl,rfl,rfl,AB _,fun _ _ _=>rfl⟩
theorem BX{a w:World}{row:Option Nat}(h:a.grownBy w row):a.grownBy w.drew row:=⟨h.os,h.tape,h.output,h.size,h.block⟩
theorem Bl{a w:World}{row:Option Nat}(h:a.grownBy w row)(o:Obj):a.grownBy (w.alloc o) row:=
 ⟨h.os,h.tape,h.output,AF h.size (by simp),fun i hi hne=>(Below.heap_alloc w o i (Nat.lt_of_lt_of_le hi h.size)).trans (h.block i hi hne)⟩
theorem Bi{a w:World}{g:Nat}(h:a.grownBy w (some g)){p:Addr}(hp:p.block=g)(u:Value):a.grownBy (w.setCell p u) (some g):=
 ⟨h.os,h.tape,h.output,by simpa[World.setCell]using h.size,fun i hi hne=>(Below.heap_setCell w p u i (by rintro rfl;exact hne (by rw[hp]))).trans (h.block i hi hne)⟩
theorem BN{B:Nat}{a w:World}(h:Below B a w)(n:Nat):Below B a (w.drewN n):=⟨h.os,h.tape,h.output,h.size,h.block⟩
def Rd(w:World)(B:Nat)(A:Option Addr)(xs:List Value):Prop:=
 xs=[]∨∃b o,A=some ⟨b,o,none⟩∧b<B∧∀j u,xs[j]? =some u→w.cell? ⟨b,o+j,none⟩=some u
section
variable {w w':World}{B B':Nat}{A:Option Addr}{xs:List Value}
theorem Rd.nil:Rd w B A []:=.inl rfl
theorem Rd.mk{b o:Nat}(hb:b<B)(h:∀j u,xs[j]? =some u→w.cell? ⟨b,o+j,none⟩=some u):Rd w B (some ⟨b,o,none⟩) xs:=.inr ⟨b,o,rfl,hb,h⟩
theorem Rd.keep(h:Rd w B A xs)(hk:∀p:Addr,p.block<B→w'.cell? p=w.cell? p):Rd w' B A xs:=by
 rcases h with h|⟨b,o,rfl,hb,hc⟩
 ·exact .inl h
 ·exact .inr ⟨b,o,rfl,hb,fun j u hu=>(hk _ hb).trans (hc j u hu)⟩
theorem Rd.more(h:Rd w B A xs)(hB:B≤B'):Rd w B' A xs:=by
 rcases h with h|⟨b,o,rfl,hb,hc⟩
 ·exact .inl h
 ·exact .inr ⟨b,o,rfl,by omega,hc⟩
theorem Rd.below(h:Rd w B A xs)(hb:Below B w w'):Rd w' B A xs:=h.keep fun _ hp=>hb.cell hp
theorem Rd.drew(h:Rd w B A xs):Rd w.drew B A xs:=h
theorem Rd.take(h:Rd w B A xs)(k:Nat):Rd w B A (xs.take k):=by
 rcases h with rfl|⟨b,o,rfl,hb,hc⟩
 ·exact .inl (by simp)
 ·exact .inr ⟨b,o,rfl,hb,fun j u hu=>hc j u (by rw[Bf]at hu;split at hu <;> simp_all)⟩
theorem Rd.cells(h:Rd w B A xs)(hx:xs≠[]):∃b o,A=some ⟨b,o,none⟩∧b<B∧∀j u,xs[j]? =some u→w.cell? ⟨b,o+j,none⟩=some u:=by
 rcases h with h|h
 ·exact absurd h hx
 ·exact h
theorem Rd.of_own{base e size n c:Nat}(h:w.ownsRow base e size (.slice A n c) n xs):Rd w w.heap.size A xs:=by
 rcases h.2 with⟨hv,hn⟩|⟨g,cap,cur,hv,_,hh,_⟩
 ·exact .inl (AV (by rw[h.1,hn,Nat.zero_mul]))
 ·injection hv with hA
  subst hA;refine .inr ⟨g,0,rfl,lt_of_block hh,fun j u hu=>?_⟩;have:=h.cells (g:=g) rfl j u hu;rwa[Addr.add_mid]at this
theorem Rd.of_blk{g t:Nat}{cs:Array Value}(h:Blk w g t cs)(o n:Nat):Rd w w.heap.size (some ⟨g,o,none⟩) ((cs.toList.drop o).take n):=
 .inr ⟨g,o,rfl,h.lt,fun j u hu=>by
  rw[h.cell];rw[Bf]at hu;split at hu
  ·rw[List.getElem?_drop]at hu;simpa using hu
  ·simp at hu⟩
end
theorem Rd.one(w:World)(x:Value)(t:TypeId):Rd (w.alloc (.cells #[x] t)) (w.heap.size+1) (some ⟨w.heap.size,0,none⟩) [x]:=by
 have:=Rd.of_blk (Blk.new w t #[x]) 0 1;simpa using this
theorem Ar{w:World}{base e size n:Nat}{v:Value}{xs:List Value}(h:w.ownsRow base e size v n xs):∃A c,v= .slice A n c:=by
 rcases h.2 with⟨rfl,rfl⟩|⟨g,cap,cur,rfl,_⟩
 ·exact⟨_,_,rfl⟩
 ·exact⟨_,_,rfl⟩
theorem BL{w w1 w2:World}{e size n:Nat}{v:Value}{xs:List Value}(hb:Below w.heap.size w w1)(h:w1.ownsRow w.heap.size e size v n xs)(hg:w1.grownBy w2 v.ownBlock):Below w.heap.size w w2:=
 hb.grown hg hb.size fun k hk=>(h.lt k hk).1
theorem CC{w:World}{base e size n g t:Nat}{v:Value}{xs:List Value}{cs:Array Value}(h:w.ownsRow base e size v n xs)(hg:Blk w g t cs)(hne:e≠t):some g≠v.ownBlock:=by
 rcases h.2 with⟨rfl,_⟩|⟨g',cap,cur,rfl,_,hh,_⟩
 ·simp[Value.ownBlock]
 ·intro he;have:g=g':=by simpa[Value.ownBlock]using he
  subst this;unfold Blk at hg;rw[hg]at hh;injection hh with hh
  injection hh with _ ht
  exact hne ht.symm
theorem NO{P:Program}(w:World)(base:Nat)(t ty e:TypeId)(i:TypeInfo)(z:Value)(size bytes:Nat)(ht:P.underlying t=some (.slice e))(hi:P.info? e=some i)(hz:i.zero=some z)(hsize:i.size=size)(hby:i.bytes=bytes)(hzs:z.cells.size=size)(hsz:0<size)(v:Value)(n:Nat)(xs:List Value)(hown:w.ownsRow base e size v n xs)(B:Nat)(A:Option Addr)(m c:Nat)(news:List Value)(hl:news.length=m*size)(hr:Rd w B A news)(h1:∀u∈news,u.oneCell'=true)(hbytes:(n+m)*bytes≤140737488355328)(h63:n+m≤maxLen)(hbase:base≤w.heap.size):∃v' w',(Builtin.append_ #[t,t] ty #[v,.slice A m c]).run P w= .ok v' w'∧w'.ownsRow base e size v' (n+m) (xs++news)∧w.grownBy w' v.ownBlock∧(v'.ownBlock=v.ownBlock∨v'.ownBlock=some w.heap.size):=by
 rcases A with _|ad
 ·have hn:news=[]:=by
   rcases hr with h|⟨b,o,h,_⟩
   ·exact h
   ·cases h
  subst hn;have hm:m=0:=by
   rcases Nat.eq_zero_or_pos m with h0|h0
   ·exact h0
   ·have:=Nat.mul_pos h0 hsz;simp at hl;omega
  subst hm;refine⟨v,w,?_,by simpa using hown,⟨rfl,rfl,rfl,AB _,fun _ _ _=>rfl⟩,.inl rfl⟩;rcases hown.2 with⟨rfl,rfl⟩|⟨g,cap,cur,rfl,_,_,hnc,_⟩
  ·simp[Builtin.append_,run_underlying ht,sizeOf,typeInfo,hi,Builtin.lenOf,Builtin.firstCells]
  ·simp[Builtin.append_,run_underlying ht,sizeOf,typeInfo,hi,Builtin.lenOf,Builtin.firstCells,hnc,storeCells]
 ·have hcells:∀j u,news[j]? =some u→w.cell? (ad.add j)=some u:=by
   intro j u hu;rcases hr with h|⟨b,o,h,_,hc⟩
   ·subst h;simp at hu
   ·injection h with h;subst h;rw[Addr.add_mid];exact hc j u hu
  obtain⟨v',w',hrun,h2,h3,_,h5⟩:=run_append_own_at (P:=P) w base t ty e i z size bytes ht hi hz hsize hby hzs hsz v n xs hown ad m c news hl hcells h1 h63 hbytes hbase;exact⟨v',w',hrun,h2,h3,h5⟩
theorem Aq{P:Program}{w:World}{ops:Array Oper}{rest:List Oper}{o:Oper}{a:Act}{Q:Exit→Act→World→Prop}(hgd:o.guard=none)(s x:Operand)(t:TypeId)(ho:o.op= .call {callee:=.builtin .append,args:=#[s,x],argTypes:=#[t,t]})
  (base:Nat) (e:TypeId) (z:Value) (size bytes:Nat) (ht:P.underlying t=some (.slice e)) (hi:(P.info? e).map (fun i=>(i.zero,i.size,i.bytes))=some (some z,size,bytes)) (hzs:z.cells.size=size) (hsz:0<size)
  (v:Value) (n:Nat) (xs:List Value) (hs:a.eval s=v) (hown:w.ownsRow base e size v n xs)
  (B:Nat) (A:Option Addr) (m c:Nat) (news:List Value) (hx:a.eval x= .slice A m c) (hl:news.length=m*size) (hr:Rd w B A news) (h1:∀u∈news,u.oneCell'=true)
  (hbytes:(n+m)*bytes≤140737488355328) (h63:n+m≤maxLen) (hbase:base≤w.heap.size)
  (h:∀v' w',w'.ownsRow base e size v' (n+m) (xs++news)→w.grownBy w' v.ownBlock→(v'.ownBlock=v.ownBlock∨v'.ownBlock=some w.heap.size)→wpList P ops Q rest (a.put o.dst v') w'):
  wpList P ops Q (o::rest) a w:=by
 obtain⟨i,hi',hz,hsize,hby⟩:=info_parts hi;refine wpList_plain hgd fun K hK=>?_
 obtain⟨v',w',hr,h2,h3,h5⟩:=NO (P:=P) w base t o.type e i z size bytes ht hi' hz hsize hby hzs hsz v n xs hown B A m c news hl hr h1 hbytes h63 hbase;unfold Oper.wp execOp;simp only[ho,resolve,invoke,builtin,Sem.run_bind,Sem.run_pure,Result.andThen_ok,List.map_toArray,List.map_cons,List.map_nil,hs,hx,hr];exact hK _ _ (h v' w' h2 h3 h5)
theorem Sf{P:Program}{w:World}{o:Oper}{a:Act}{K:Act→World→Prop}{Q:Exit→Act→World→Prop}(s x:Operand)(t:TypeId)(ho:o.op= .call {callee:=.builtin .append,args:=#[s,x],argTypes:=#[t,t]})
  (base:Nat) (e:TypeId) (z:Value) (size bytes:Nat) (ht:P.underlying t=some (.slice e)) (hi:(P.info? e).map (fun i=>(i.zero,i.size,i.bytes))=some (some z,size,bytes)) (hzs:z.cells.size=size) (hsz:0<size)
  (v:Value) (n:Nat) (xs:List Value) (hs:a.eval s=v) (hown:w.ownsRow base e size v n xs)
  (B:Nat) (A:Option Addr) (m c:Nat) (news:List Value) (hx:a.eval x= .slice A m c) (hl:news.length=m*size) (hr:Rd w B A news) (h1:∀u∈news,u.oneCell'=true)
  (hbytes:(n+m)*bytes≤140737488355328) (h63:n+m≤maxLen) (hbase:base≤w.heap.size)
  (h:∀v' w',w'.ownsRow base e size v' (n+m) (xs++news)→w.grownBy w' v.ownBlock→(v'.ownBlock=v.ownBlock∨v'.ownBlock=some w.heap.size)→K (a.put o.dst v') w'):
  o.wp P a w K Q:=by
 obtain⟨i,hi',hz,hsize,hby⟩:=info_parts hi;obtain⟨v',w',hr,h2,h3,h5⟩:=NO (P:=P) w base t o.type e i z size bytes ht hi' hz hsize hby hzs hsz v n xs hown B A m c news hl hr h1 hbytes h63 hbase;unfold Oper.wp execOp;simp only[ho,resolve,invoke,builtin,Sem.run_bind,Sem.run_pure,Result.andThen_ok,List.map_toArray,List.map_cons,List.map_nil,hs,hx,hr];exact h v' w' h2 h3 h5
theorem BF{w:World}{base base' e size n:Nat}{v:Value}{xs:List Value}(h:w.ownsRow base e size v n xs)(hb:base'≤base):w.ownsRow base' e size v n xs:=by
 refine⟨h.1,?_⟩;rcases h.2 with h|⟨g,cap,cur,hv,hg,r⟩
 ·exact .inl h
 ·exact .inr ⟨g,cap,cur,hv,by omega,r⟩
theorem BA{w w':World}{base B e size n:Nat}{v:Value}{xs:List Value}(h:w.ownsRow base e size v n xs)(hb:Below B w w')(hB:w.heap.size≤B):w'.ownsRow base e size v n xs:=by
 refine⟨h.1,?_⟩;rcases h.2 with h|⟨g,cap,cur,hv,hg,hh,r⟩
 ·exact .inl h
 ·exact .inr ⟨g,cap,cur,hv,hg,(hb.block g (by have:=lt_of_block hh;omega)).trans hh,r⟩
theorem Cc(g:Nat)(t:TypeId):∀(vs:List Value) (o:Nat) (w:World) (cur:Array Value),Blk w g t cur→
  (∃cur',Blk (w.setCells g o vs) g t cur'∧cur'.size=cur.size)∧w.grownBy (w.setCells g o vs) (some g)∧(w.setCells g o vs).heap.size=w.heap.size
 |[],_,w,cur,h=>⟨⟨cur,h,rfl⟩,Ai _ _,rfl⟩
 |v::r,o,w,cur,h=>by
  rw[World.setCells];obtain⟨⟨cur',h1,h2⟩,h3,h4⟩:=Cc g t r (o+1) (w.setCell ⟨g,o,none⟩ v) _ (h.put o v);refine⟨⟨cur',h1,by simpa using h2⟩,?_,by rw[h4];simp[World.setCell]⟩;have h5:w.grownBy (w.setCell ⟨g,o,none⟩ v) (some g):=Bi (Ai w g) rfl v;exact h5.trans h3
theorem AJ{P:Program}{ops:Array Oper}{rest:List Oper}{op:Oper}{a:Act}{w:World}{Q:Exit→Act→World→Prop}(hgd:op.guard=none)(ty:TypeId)(x y:Operand)(ho:op.op= .store ty x y)(g:Nat)(cs:Array Value)(hx:a.eval x= .pointer (some ⟨g,0,none⟩))(hy:a.eval y= .agg cs)(t:TypeId)(old:Array Value)(hB:Blk w g t old)(hsz:old.size=cs.size)(hi:(P.info? ty).map (·.size)=some cs.size)(h1:∀u∈cs.toList,u.oneCell'=true)(h:∀w',Blk w' g t cs→w.grownBy w' (some g)→w'.heap.size=w.heap.size→wpList P ops Q rest (a.put op.dst undef) w'):wpList P ops Q (op::rest) a w:=by
 have hth:w.there g 0 cs.size:=fun j hj=>⟨by
  rw[Nat.zero_add,hB.cell];rw[Array.getElem?_eq_getElem (by omega)];rfl,hB.frozen _⟩
 refine wpList_store_mid hgd ty x y ho g 0 cs hx hy hth hi (Array.all_eq_true_iff_forall_mem.2 fun v hv=>h1 v (by simpa using hv)) ?_;obtain⟨⟨cur',h2,h3⟩,h4,h5⟩:=Cc g t cs.toList 0 w old hB;have e:cur'=cs:=by
  apply Array.ext (by omega);intro i hi1 hi2;have:=World.rangeAt_setCells_same w g 0 cs.toList (by simpa using hth) i cs[i] (by simp[hi2]);rw[Nat.zero_add,h2.cell,Array.getElem?_eq_getElem hi1]at this;exact Option.some.inj this
 subst e;exact h _ h2 h4 h5
theorem CG{α:Type}(f:α→List Value)(m:Nat):∀(l:List α) (_:∀x∈l,(f x).length=m) (k j:Nat) (x:α),l[k]? =some x→j<m→(l.flatMap f)[k*m+j]? =(f x)[j]?
 |[],_,k,j,x,h,_=>by simp at h
 |y::r,hm,0,j,x,h,hj=>by
  simp at h;subst h;rw[List.flatMap_cons,Nat.zero_mul,Nat.zero_add,List.getElem?_append_left (by rw[hm y (by simp)];exact hj)]
 |y::r,hm,k+1,j,x,h,hj=>by
  have hy:(f y).length=m:=hm y (by simp);rw[List.flatMap_cons,List.getElem?_append_right (by rw[hy,Nat.succ_mul];omega),hy,show(k+1)*m+j-m=k*m+j from by rw[Nat.succ_mul];omega];exact CG f m r (fun z hz=>hm z (by simp[hz])) k j x (by simpa using h) hj
theorem AX{α:Type}(f:α→List Value)(m:Nat):∀(l:List α) (_:∀x∈l,(f x).length=m),(l.flatMap f).length=l.length*m
 |[],_=>by simp
 |y::r,hm=>by
  rw[List.flatMap_cons,AI,AX f m r (fun z hz=>hm z (by simp[hz])),hm y (by simp),Af,Nat.succ_mul,Nat.add_comm]
structure Es {κ:Type}[DecidableEq κ](P:Program)(kt:TypeId)(enc:κ→Value):Prop where
 desc:∃d,P.underlying kt=some d∧∀k k',Instr.sameNow d (enc k) (enc k')=none
 check:∀b k w,(Instr.checkKey b 10000 kt (enc k)).run P w= .ok () w
 eq:∀k k' w,(Op.equal kt (enc k) (enc k')).run P w= .ok (decide (k=k')) w
 bits:∀k,Instr.sameBits 10000 (enc k) (enc k)=true
section
variable {κ:Type}
def BR[DecidableEq κ](k:κ):List (κ×Value)→Option Value
 |[]=>none
 |p::r=>if k=p.1 then some p.2 else BR k r
def CJ[DecidableEq κ](k:κ)(v:Value):List (κ×Value)→List (κ×Value)
 |[]=>[(k,v)]
 |p::r=>if k=p.1 then(k,v)::r else p::CJ k v r
theorem Cy[DecidableEq κ](k k':κ)(v:Value):∀l,BR k' (CJ k v l)=if k'=k then some v else BR k' l
 |[]=>rfl
 |p::r=>by
  rw[CJ];split
  ·rename_i h
   rw[BR,BR];by_cases h':k'=k
   ·rw[if_pos h',if_pos h']
   ·rw[if_neg h',if_neg h',if_neg (by rw[←h];exact h')]
  ·rename_i h
   rw[BR,BR,Cy k k' v r];by_cases h':k'=p.1
   ·rw[if_pos h',if_pos h',if_neg (by rw[h'];exact fun e=>h e.symm)]
   ·rw[if_neg h',if_neg h']
theorem K3[DecidableEq κ](k:κ)(v:Value):∀l,(CJ k v l).length≤l.length+1
 |[]=>by simp[CJ]
 |p::r=>by
  rw[CJ];split
  ·simp
  ·have:=K3 k v r;simp;omega
def Cr(enc:κ→Value)(w:World)(m:Nat)(l:List (κ×Value)):Prop:=
 ∃es clock,w.heap[m]? =some (.map es clock)∧es.toList.map (fun e=>(e.key,e.val))=l.map (fun p=>(enc p.1,p.2))
variable {enc:κ→Value}{w w':World}{m:Nat}{l:List (κ×Value)}{P:Program}{kt:TypeId}
theorem Cr.lt(h:Cr enc w m l):m<w.heap.size:=by
 obtain⟨es,c,h1,_⟩:=h;exact(Aa.1 h1).1
theorem Cr.below{B':Nat}(h:Cr enc w m l)(hb:Below B' w w')(hm:m<B'):Cr enc w' m l:=by
 obtain⟨es,c,h1,h2⟩:=h;exact⟨es,c,(hb.block m hm).trans h1,h2⟩
theorem Cr.kept{row:Option Nat}(h:Cr enc w m l)(hg:w.grownBy w' row)(hm:some m≠row):Cr enc w' m l:=by
 have hl:=h.lt;obtain⟨es,c,h1,h2⟩:=h;exact⟨es,c,(hg.block m hl hm).trans h1,h2⟩
variable [DecidableEq κ]
theorem Ds(K:Es P kt enc)(k:κ)(w:World):∀(es:List MapEntry) (l:List (κ×Value)) (i:Nat),es.map (fun e=>(e.key,e.val))=l.map (fun p=>(enc p.1,p.2))→
  (BR k l=none∧(∀v,CJ k v l=l++[(k,v)])∧(Instr.findAsking kt (enc k) es i).run P w= .ok none w)∨
  ∃j v,BR k l=some v∧(∃e,es[j]? =some e∧e.key=enc k∧e.val=v)∧(∀u,CJ k u l=l.set j (k,u))∧j<l.length∧(Instr.findAsking kt (enc k) es i).run P w= .ok (some (i+j,v)) w
 |[],l,i,h=>by
  have:l=[]:=by simpa using h.symm
  subst this;exact .inl ⟨rfl,fun v=>rfl,rfl⟩
 |e::es,[],i,h=>by simp at h
 |e::es,p::l,i,h=>by
  simp only[List.map_cons,List.cons.injEq,Prod.mk.injEq]at h;obtain⟨⟨h1,h2⟩,h3⟩:=h;by_cases hk:k=p.1
  ·refine .inr ⟨0,p.2,by rw[BR,if_pos hk],⟨e,rfl,by rw[h1,hk],h2⟩,fun u=>by rw[CJ,if_pos hk];rfl,by simp,?_⟩;rw[Instr.findAsking,Sem.run_bind,h1,K.eq,Result.andThen_ok,decide_eq_true hk,if_pos rfl,h2];rfl
  ·rcases Ds K k w es l (i+1) h3 with⟨a1,a2,a3⟩|⟨j,v,b1,⟨e',b2,b3,b4⟩,b5,b6,b7⟩
   ·refine .inl ⟨by rw[BR,if_neg hk];exact a1,fun v=>by rw[CJ,if_neg hk,a2];rfl,?_⟩;rw[Instr.findAsking,Sem.run_bind,h1,K.eq,Result.andThen_ok,decide_eq_false hk,if_neg (by simp)];exact a3
   ·refine .inr ⟨j+1,v,by rw[BR,if_neg hk];exact b1,⟨e',by simpa using b2,b3,b4⟩,fun u=>by rw[CJ,if_neg hk,b5];rfl,by simp;omega,?_⟩;rw[Instr.findAsking,Sem.run_bind,h1,K.eq,Result.andThen_ok,decide_eq_false hk,if_neg (by simp)];rw[b7,show i+1+j=i+(j+1)from by omega]
theorem D5(K:Es P kt enc)(k:κ)(w:World)(es:List MapEntry)(l:List (κ×Value))(h:es.map (fun e=>(e.key,e.val))=l.map (fun p=>(enc p.1,p.2))):(Instr.findKey kt (enc k) es).run P w=(Instr.findAsking kt (enc k) es 0).run P w:=by
 obtain⟨d,hd,hn⟩:=K.desc;rw[Instr.findKey,Sem.run_bind,run_underlying hd,Result.andThen_ok];rcases es with _|⟨e,es⟩
 ·rfl
 ·rcases l with _|⟨p,l⟩
  ·simp at h
  ·simp only[List.map_cons,List.cons.injEq,Prod.mk.injEq]at h;rw[Instr.findNow,h.1.1,hn]
theorem Cr.look(h:Cr enc w m l)(K:Es P kt enc){t e:TypeId}(ht:P.underlying t=some (.map kt e))(z:Value)(hz:(zeroValue e).run P w= .ok z w)(k:κ)(ok:Bool):(Instr.lookup t (.map (some m)) (enc k) ok).run P w= .ok (if ok then .tuple #[(BR k l).getD z,.bool (BR k l).isSome]else(BR k l).getD z) w:=by
 obtain⟨es,c,h1,h2⟩:=h;unfold Instr.lookup;simp only[Sem.run_bind,run_underlying ht,Result.andThen_ok,MapKept.run_getObj_map h1,K.check,Sem.run_pure,D5 K k w es.toList l h2];rcases Ds K k w es.toList l 0 h2 with⟨a1,_,a3⟩|⟨j,v,b1,_,_,_,b7⟩
 ·rw[a3,a1];simp only[Result.andThen_ok,Sem.run_bind,hz,Sem.run_pure];cases ok <;> rfl
 ·rw[b7,b1];simp only[Result.andThen_ok];cases ok <;> rfl
theorem Cr.store(h:Cr enc w m l)(K:Es P kt enc){t e:TypeId}(ht:P.underlying t=some (.map kt e))(k:κ)(v:Value):∃w',(Instr.mapUpdate t (.map (some m)) (enc k) v).run P w= .ok () w'∧Cr enc w' m (CJ k v l)∧w.grownBy w' (some m)∧w'.heap.size=w.heap.size:=by
 obtain⟨es,c,h1,h2⟩:=h;have hlt:=(Aa.1 h1).1;have put:∀o:Obj,({w with heap:=w.heap.setIfInBounds m o}:World).heap[m]? =some o:=fun o=>by simp[hlt]
 have gr:∀o:Obj,w.grownBy {w with heap:=w.heap.setIfInBounds m o} (some m):=fun o=>⟨rfl,rfl,rfl,by simp,fun i hi hne=>by
  have:m≠i:=fun e=>hne (by rw[e])
  simp[this]⟩
 unfold Instr.mapUpdate;simp only[Sem.run_bind,run_underlying ht,Result.andThen_ok,MapKept.run_getObj_map h1,K.check,D5 K k w es.toList l h2];rcases Ds K k w es.toList l 0 h2 with⟨_,a2,a3⟩|⟨j,u,_,⟨e',b2,b3,b4⟩,b5,b6,b7⟩
 ·rw[a3];simp only[Result.andThen_ok];refine⟨_,MapKept.run_setObj_map _ h1,⟨_,_,put _,?_⟩,gr _,by simp⟩;rw[a2];simp[h2]
 ·rw[b7];simp only[Result.andThen_ok,Sem.run_bind,Nat.zero_add];have he:es[j]? =some e':=by rw[←Array.getElem?_toList];exact b2
  have hs:(Instr.keyThatStays (((es[j]?).map (·.key)).getD (enc k)) (enc k)).run P w= .ok (enc k) w:=by
   rw[he];unfold Instr.keyThatStays;simp only[Option.map_some,Option.getD_some,b3,K.bits,if_true];rfl
  rw[hs];simp only[Result.andThen_ok];refine⟨_,MapKept.run_setObj_map _ h1,⟨_,_,put _,?_⟩,gr _,by simp⟩;rw[b5];apply List.ext_getElem?;intro i;have h3:=congrArg (fun x=>x[i]?) h2;simp only[AU,Array.getElem?_toList]at h3 ⊢;rw[Array.getElem?_modify,List.getElem?_set];by_cases hij:j=i
  ·subst hij;simp[he,b6]
  ·simp[hij,h3]
end
end
end Go.Proofs.YtadllffeoibelaaGreat
