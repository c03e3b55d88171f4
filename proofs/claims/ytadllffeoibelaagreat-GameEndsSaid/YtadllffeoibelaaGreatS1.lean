/-
  Parts of the proof. No condition.
-/
import Derived.Test.YtadllffeoibelaaGreatRows
import Derived.JoinedOf
import Derived.Test.YtadllffeoibelaaGreatProg
import Derived.WalkKit
import Derived.WalkLawsBesides
import Derived.WalkSpells
import Derived.Laws.StructEq
import Derived.Laws.BitsAllLaws
import Derived.Laws.BitsLemmas
import Derived.Below
import Derived.Deep.Draws
import Derived.Laws.OwnMore
import Derived.Laws.Rows
import Derived.Deep.AppendLies
import Derived.Deep.MidRow
import Derived.Lib.Hide
import Derived.Maps.AppendAt
import Derived.Deep.RegionHeld3
import Derived.Deep.DrawnRows
import Derived.MapKept
import Derived.BigQuiet
import Derived.Deep.QuietTactic
import Derived.RegionTactic
import Derived.StillTailTactics
import Derived.Maps.RangeWalk
import Derived.Test.YtadllffeoibelaaGreatS0
open Go.Proofs.Tryz
namespace Go.Proofs.YtadllffeoibelaaGreat
set_option maxRecDepth 100000
set_option maxHeartbeats 32000000
set_option linter.all false
theorem UU:prog.mayEnter=true:=by kernel_rfl
theorem UV:(Rows.gameAgreesRow.lifted==prog.liftsFinal)=true:=by kernel_rfl
theorem UW:(prog.make==some Rows.gameAgreesRow.make)=true:=by kernel_rfl
theorem Vf:laidOutB prog=true:=by kernel_rfl
theorem Vg:mapsRowed prog=true:=by kernel_rfl
theorem UX:prog.stopsHeard=true:=by kernel_rfl
theorem CF{a b:Bool}(ha:a=true)(hb:b=true):(a&&b)=true:=by rw[ha,hb];rfl
section
open Go.RowKit
abbrev B(b:UInt8):Value:=.int .u8 (b.toNat:Int)
abbrev I(n:Int):Value:=.int .i64 n
abbrev U(x:UInt64):Value:=.int .u64 (x.toNat:Int)
structure Nm where
 b0:UInt8
 b1:UInt8
 b2:UInt8
 b3:UInt8
 b4:UInt8
 b5:UInt8
 b6:UInt8
 b7:UInt8
 deriving DecidableEq
namespace Nm
def bytes(n:Nm):List UInt8:=[n.b0,n.b1,n.b2,n.b3,n.b4,n.b5,n.b6,n.b7]
abbrev val(n:Nm):Value:=.agg #[B n.b0,B n.b1,B n.b2,B n.b3,B n.b4,B n.b5,B n.b6,B n.b7]
abbrev zero:Nm:=⟨0,0,0,0,0,0,0,0⟩
end Nm
structure Vt where
 kind:Int
 slot:Int
 round:Int
 choice:Int
 signer:Int
 support:Int
 parent:Nm
 value:Nm
 deriving DecidableEq
namespace Vt
abbrev cells(v:Vt):Array Value:=#[I v.kind,I v.slot,I v.round,I v.choice,I v.signer,I v.support,
 B v.parent.b0,B v.parent.b1,B v.parent.b2,B v.parent.b3,B v.parent.b4,B v.parent.b5,B v.parent.b6,B v.parent.b7,
 B v.value.b0,B v.value.b1,B v.value.b2,B v.value.b3,B v.value.b4,B v.value.b5,B v.value.b6,B v.value.b7]
abbrev val(v:Vt):Value:=.agg v.cells
end Vt
theorem Qq(x:UInt64):x.toNat<18446744073709551616:=x.toNat_lt
theorem GH(x:UInt64):(BitVec.ofInt 64 (x.toNat:Int))=x.toBitVec:=by
 rw[BitVec.ofInt_natCast];simp[<-UInt64.toNat_toBitVec]
theorem OY(x y:UInt64):bits .xor .u64 (x.toNat:Int) (y.toNat:Int)=((x^^^y).toNat:Int):=by
 show IntKind.u64.wrap ((BitVec.ofInt 64 (x.toNat:Int)^^^BitVec.ofInt 64 (y.toNat:Int)).toNat:Int)=_;rw[GH,GH,<-UInt64.toBitVec_xor,UInt64.toNat_toBitVec,IntKind.wrap_u64];have:=Qq (x^^^y);omega
theorem Vh(x y:UInt64):bits .or .u64 (x.toNat:Int) (y.toNat:Int)=((x|||y).toNat:Int):=by
 show IntKind.u64.wrap ((BitVec.ofInt 64 (x.toNat:Int)|||BitVec.ofInt 64 (y.toNat:Int)).toNat:Int)=_;rw[GH,GH,<-UInt64.toBitVec_or,UInt64.toNat_toBitVec,IntKind.wrap_u64];have:=Qq (x|||y);omega
theorem Vi(x y:UInt64):IntKind.u64.wrap ((x.toNat:Int)+(y.toNat:Int))=((x+y).toNat:Int):=by
 rw[IntKind.wrap_u64,UInt64.toNat_add];omega
def Blk(w:World)(g:Nat)(t:TypeId)(cs:Array Value):Prop:=w.heap[g]? =some (.cells cs t (0,0))
section
variable {w w' w1:World}{g:Nat}{t:TypeId}{cs:Array Value}{B:Nat}
theorem Blk.lt(h:Blk w g t cs):g<w.heap.size:=lt_of_block h
theorem Blk.cell(h:Blk w g t cs)(i:Nat):w.cell? ⟨g,i,none⟩=cs[i]?:=cell_of_row w g i cs t (0,0) h
theorem Blk.frozen(h:Blk w g t cs)(i:Nat):w.frozen? ⟨g,i,none⟩=false:=frozen_of_row w g i cs t h
theorem Blk.new(w:World)(t:TypeId)(cs:Array Value):Blk (w.alloc (.cells cs t)) w.heap.size t cs:=heap_alloc_new w _
theorem Blk.drew(h:Blk w g t cs):Blk w.drew g t cs:=h
theorem Blk.alloc(h:Blk w g t cs)(o:Obj):Blk (w.alloc o) g t cs:=(Below.heap_alloc w o g h.lt).trans h
theorem Blk.put(h:Blk w g t cs)(i:Nat)(u:Value):Blk (w.setCell ⟨g,i,none⟩ u) g t (cs.setIfInBounds i u):=by
 unfold Blk at h ⊢;simp[World.setCell,Array.getElem?_modify,h]
theorem Blk.far(h:Blk w g t cs){p:Addr}(hp:g≠p.block)(u:Value):Blk (w.setCell p u) g t cs:=(Below.heap_setCell w p u g hp).trans h
theorem Blk.below(h:Blk w g t cs)(hb:Below B w w')(hg:g<B):Blk w' g t cs:=(hb.block g hg).trans h
theorem Blk.kept{row:Option Nat}(h:Blk w g t cs)(hb:w.grownBy w' row)(hg:some g≠row):Blk w' g t cs:=(hb.block g h.lt hg).trans h
end
theorem Al(w:World)(g:Nat):w.grownBy w (some g):=⟨rfl,rfl,rfl,AB _,fun _ _ _=>rfl⟩
theorem BZ{a w:World}{row:Option Nat}(h:a.grownBy w row):a.grownBy w.drew row:=⟨h.os,h.tape,h.output,h.size,h.block⟩
theorem Bm{a w:World}{row:Option Nat}(h:a.grownBy w row)(o:Obj):a.grownBy (w.alloc o) row:=
 ⟨h.os,h.tape,h.output,AG h.size (by simp),fun i hi hne=>(Below.heap_alloc w o i (Nat.lt_of_lt_of_le hi h.size)).trans (h.block i hi hne)⟩
theorem Bl{a w:World}{g:Nat}(h:a.grownBy w (some g)){p:Addr}(hp:p.block=g)(u:Value):a.grownBy (w.setCell p u) (some g):=
 ⟨h.os,h.tape,h.output,by simpa[World.setCell]using h.size,fun i hi hne=>(Below.heap_setCell w p u i (by rintro rfl;exact hne (by rw[hp]))).trans (h.block i hi hne)⟩
theorem BJ{B:Nat}{a w:World}(h:Below B a w)(n:Nat):Below B a (w.drewN n):=⟨h.os,h.tape,h.output,h.size,h.block⟩
def Rd(w:World)(B:Nat)(A:Option Addr)(xs:List Value):Prop:=
 xs=[]∨∃b o,A=some ⟨b,o,none⟩/\b<B/\∀j u,xs[j]? =some u->w.cell? ⟨b,o+j,none⟩=some u
section
variable {w w':World}{B B':Nat}{A:Option Addr}{xs:List Value}
theorem Rd.nil:Rd w B A []:=.inl rfl
theorem Rd.mk{b o:Nat}(hb:b<B)(h:∀j u,xs[j]? =some u->w.cell? ⟨b,o+j,none⟩=some u):Rd w B (some ⟨b,o,none⟩) xs:=.inr ⟨b,o,rfl,hb,h⟩
theorem Rd.keep(h:Rd w B A xs)(hk:∀p:Addr,p.block<B->w'.cell? p=w.cell? p):Rd w' B A xs:=by
 rcases h with h|⟨b,o,rfl,hb,hc⟩
 ·exact .inl h
 ·exact .inr ⟨b,o,rfl,hb,fun j u hu=>(hk _ hb).trans (hc j u hu)⟩
theorem Rd.more(h:Rd w B A xs)(hB:B<=B'):Rd w B' A xs:=by
 rcases h with h|⟨b,o,rfl,hb,hc⟩
 ·exact .inl h
 ·exact .inr ⟨b,o,rfl,by omega,hc⟩
theorem Rd.below(h:Rd w B A xs)(hb:Below B w w'):Rd w' B A xs:=h.keep fun _ hp=>hb.cell hp
theorem Rd.drew(h:Rd w B A xs):Rd w.drew B A xs:=h
theorem Rd.take(h:Rd w B A xs)(k:Nat):Rd w B A (xs.take k):=by
 rcases h with rfl|⟨b,o,rfl,hb,hc⟩
 ·exact .inl (by simp)
 ·exact .inr ⟨b,o,rfl,hb,fun j u hu=>hc j u (by rw[BT]at hu;split at hu <;> simp_all)⟩
theorem Rd.cells(h:Rd w B A xs)(hx:xs≠[]):∃b o,A=some ⟨b,o,none⟩/\b<B/\∀j u,xs[j]? =some u->w.cell? ⟨b,o+j,none⟩=some u:=by
 rcases h with h|h
 ·exact absurd h hx
 ·exact h
theorem Rd.of_own{base e size n c:Nat}(h:w.ownsRow base e size (.slice A n c) n xs):Rd w w.heap.size A xs:=by
 rcases h.2 with⟨hv,hn⟩|⟨g,cap,cur,hv,_,hh,_⟩
 ·exact .inl (AQ (by rw[h.1,hn,Nat.zero_mul]))
 ·injection hv with hA
  subst hA;refine .inr ⟨g,0,rfl,lt_of_block hh,fun j u hu=>?_⟩;have:=h.cells (g:=g) rfl j u hu;rwa[Addr.add_mid]at this
theorem Rd.of_blk{g t:Nat}{cs:Array Value}(h:Blk w g t cs)(o n:Nat):Rd w w.heap.size (some ⟨g,o,none⟩) ((cs.toList.drop o).take n):=
 .inr ⟨g,o,rfl,h.lt,fun j u hu=>by
  rw[h.cell];rw[BT]at hu;split at hu
  ·rw[List.getElem?_drop]at hu;simpa using hu
  ·simp at hu⟩
end
theorem Rd.one(w:World)(x:Value)(t:TypeId):Rd (w.alloc (.cells #[x] t)) (w.heap.size+1) (some ⟨w.heap.size,0,none⟩) [x]:=by
 have:=Rd.of_blk (Blk.new w t #[x]) 0 1;simpa using this
theorem BD{w:World}{base e size n:Nat}{v:Value}{xs:List Value}(h:w.ownsRow base e size v n xs):∃A c,v= .slice A n c:=by
 rcases h.2 with⟨rfl,rfl⟩|⟨g,cap,cur,rfl,_⟩
 ·exact⟨_,_,rfl⟩
 ·exact⟨_,_,rfl⟩
theorem BO{w w1 w2:World}{e size n:Nat}{v:Value}{xs:List Value}(hb:Wx w w1)(h:w1.ownsRow w.heap.size e size v n xs)(hg:w1.grownBy w2 v.ownBlock):Wx w w2:=
 hb.grown hg hb.size fun k hk=>(h.lt k hk).1
theorem CO{w:World}{base e size n g t:Nat}{v:Value}{xs:List Value}{cs:Array Value}(h:w.ownsRow base e size v n xs)(hg:Blk w g t cs)(hne:e≠t):some g≠v.ownBlock:=by
 rcases h.2 with⟨rfl,_⟩|⟨g',cap,cur,rfl,_,hh,_⟩
 ·simp[Value.ownBlock]
 ·intro he;have:g=g':=by simpa[Value.ownBlock]using he
  subst this;unfold Blk at hg;rw[hg]at hh;injection hh with hh
  injection hh with _ ht
  exact hne ht.symm
theorem OZ{P:Program}(w:World)(base:Nat)(t ty e:TypeId)(i:TypeInfo)(z:Value)(size bytes:Nat)(ht:P.underlying t=some (.slice e))(hi:P.info? e=some i)(hz:i.zero=some z)(hAf:i.size=size)(hby:i.bytes=bytes)(hzs:z.cells.size=size)(hsz:0<size)(v:Value)(n:Nat)(xs:List Value)(xB:w.ownsRow base e size v n xs)(B:Nat)(A:Option Addr)(m c:Nat)(news:List Value)(hl:news.length=m*size)(hr:Rd w B A news)(h1:∀u∈news,u.oneCell'=true)(yn:(n+m)*bytes<=140737488355328)(h63:n+m<=maxLen)(yJ:base<=w.heap.size):∃v' w',(Builtin.append_ #[t,t] ty #[v,.slice A m c]).run P w= .ok v' w'/\w'.ownsRow base e size v' (n+m) (xs++news)/\w.grownBy w' v.ownBlock/\(v'.ownBlock=v.ownBlock∨v'.ownBlock=some w.heap.size):=by
 rcases A with _|ad
 ·have hn:news=[]:=by
   rcases hr with h|⟨b,o,h,_⟩
   ·exact h
   ·cases h
  subst hn;have hm:m=0:=by
   rcases Nat.eq_zero_or_pos m with h0|h0
   ·exact h0
   ·have:=Nat.mul_pos h0 hsz;simp at hl;omega
  subst hm;refine⟨v,w,?_,by simpa using xB,⟨rfl,rfl,rfl,AB _,fun _ _ _=>rfl⟩,.inl rfl⟩;rcases xB.2 with⟨rfl,rfl⟩|⟨g,cap,cur,rfl,_,_,hnc,_⟩
  ·simp[Builtin.append_,run_underlying ht,sizeOf,typeInfo,hi,Builtin.lenOf,Builtin.firstCells]
  ·simp[Builtin.append_,run_underlying ht,sizeOf,typeInfo,hi,Builtin.lenOf,Builtin.firstCells,hnc,storeCells]
 ·have hEO:∀j u,news[j]? =some u->w.cell? (ad.add j)=some u:=by
   intro j u hu;rcases hr with h|⟨b,o,h,_,hc⟩
   ·subst h;simp at hu
   ·injection h with h;subst h;rw[Addr.add_mid];exact hc j u hu
  obtain⟨v',w',xK,h2,h3,_,h5⟩:=run_append_own_at (P:=P) w base t ty e i z size bytes ht hi hz hAf hby hzs hsz v n xs xB ad m c news hl hEO h1 h63 yn yJ;exact⟨v',w',xK,h2,h3,h5⟩
theorem Ar{P:Program}{w:World}{ops:Array Oper}{rest:List Oper}{o:Oper}{a:Act}{Q:Exit->Act->World->Prop}(hgd:o.guard=none)(s x:Operand)(t:TypeId)(ho:o.op= .call {callee:=.builtin .append,args:=#[s,x],argTypes:=#[t,t]})
  (base:Nat) (e:TypeId) (z:Value) (size bytes:Nat) (ht:P.underlying t=some (.slice e)) (hi:(P.info? e).map (fun i=>(i.zero,i.size,i.bytes))=some (some z,size,bytes)) (hzs:z.cells.size=size) (hsz:0<size)
  (v:Value) (n:Nat) (xs:List Value) (hs:a.eval s=v) (xB:w.ownsRow base e size v n xs)
  (B:Nat) (A:Option Addr) (m c:Nat) (news:List Value) (hx:a.eval x= .slice A m c) (hl:news.length=m*size) (hr:Rd w B A news) (h1:∀u∈news,u.oneCell'=true)
  (yn:(n+m)*bytes<=140737488355328) (h63:n+m<=maxLen) (yJ:base<=w.heap.size)
  (h:∀v' w',w'.ownsRow base e size v' (n+m) (xs++news)->w.grownBy w' v.ownBlock->(v'.ownBlock=v.ownBlock∨v'.ownBlock=some w.heap.size)->wpList P ops Q rest (a.put o.dst v') w'):
  wpList P ops Q (o::rest) a w:=by
 obtain⟨i,hi',hz,hAf,hby⟩:=info_parts hi;refine wpList_plain hgd fun K hK=>?_
 obtain⟨v',w',hr,h2,h3,h5⟩:=OZ (P:=P) w base t o.type e i z size bytes ht hi' hz hAf hby hzs hsz v n xs xB B A m c news hl hr h1 yn h63 yJ;unfold Oper.wp execOp;simp only[ho,resolve,invoke,builtin,Sem.run_bind,Sem.run_pure,Result.andThen_ok,List.map_toArray,List.map_cons,List.map_nil,hs,hx,hr];exact hK _ _ (h v' w' h2 h3 h5)
theorem UY{P:Program}{w:World}{o:Oper}{a:Act}{K:Act->World->Prop}{Q:Exit->Act->World->Prop}(s x:Operand)(t:TypeId)(ho:o.op= .call {callee:=.builtin .append,args:=#[s,x],argTypes:=#[t,t]})
  (base:Nat) (e:TypeId) (z:Value) (size bytes:Nat) (ht:P.underlying t=some (.slice e)) (hi:(P.info? e).map (fun i=>(i.zero,i.size,i.bytes))=some (some z,size,bytes)) (hzs:z.cells.size=size) (hsz:0<size)
  (v:Value) (n:Nat) (xs:List Value) (hs:a.eval s=v) (xB:w.ownsRow base e size v n xs)
  (B:Nat) (A:Option Addr) (m c:Nat) (news:List Value) (hx:a.eval x= .slice A m c) (hl:news.length=m*size) (hr:Rd w B A news) (h1:∀u∈news,u.oneCell'=true)
  (yn:(n+m)*bytes<=140737488355328) (h63:n+m<=maxLen) (yJ:base<=w.heap.size)
  (h:∀v' w',w'.ownsRow base e size v' (n+m) (xs++news)->w.grownBy w' v.ownBlock->(v'.ownBlock=v.ownBlock∨v'.ownBlock=some w.heap.size)->K (a.put o.dst v') w'):
  o.wp P a w K Q:=by
 obtain⟨i,hi',hz,hAf,hby⟩:=info_parts hi;obtain⟨v',w',hr,h2,h3,h5⟩:=OZ (P:=P) w base t o.type e i z size bytes ht hi' hz hAf hby hzs hsz v n xs xB B A m c news hl hr h1 yn h63 yJ;unfold Oper.wp execOp;simp only[ho,resolve,invoke,builtin,Sem.run_bind,Sem.run_pure,Result.andThen_ok,List.map_toArray,List.map_cons,List.map_nil,hs,hx,hr];exact h v' w' h2 h3 h5
theorem BS{w:World}{base base' e size n:Nat}{v:Value}{xs:List Value}(h:w.ownsRow base e size v n xs)(hb:base'<=base):w.ownsRow base' e size v n xs:=by
 refine⟨h.1,?_⟩;rcases h.2 with h|⟨g,cap,cur,hv,hg,r⟩
 ·exact .inl h
 ·exact .inr ⟨g,cap,cur,hv,by omega,r⟩
theorem BP{w w':World}{base B e size n:Nat}{v:Value}{xs:List Value}(h:w.ownsRow base e size v n xs)(hb:Below B w w')(hB:w.heap.size<=B):w'.ownsRow base e size v n xs:=by
 refine⟨h.1,?_⟩;rcases h.2 with h|⟨g,cap,cur,hv,hg,hh,r⟩
 ·exact .inl h
 ·exact .inr ⟨g,cap,cur,hv,hg,(hb.block g (by have:=lt_of_block hh;omega)).trans hh,r⟩
theorem Cr(g:Nat)(t:TypeId):∀(vs:List Value) (o:Nat) (w:World) (cur:Array Value),Blk w g t cur->
  (∃cur',Blk (w.setCells g o vs) g t cur'/\cur'.size=cur.size)/\w.grownBy (w.setCells g o vs) (some g)/\(w.setCells g o vs).heap.size=w.heap.size
 |[],_,w,cur,h=>⟨⟨cur,h,rfl⟩,Al _ _,rfl⟩
 |v::r,o,w,cur,h=>by
  rw[World.setCells];obtain⟨⟨cur',h1,h2⟩,h3,h4⟩:=Cr g t r (o+1) (w.setCell ⟨g,o,none⟩ v) _ (h.put o v);refine⟨⟨cur',h1,by simpa using h2⟩,?_,by rw[h4];simp[World.setCell]⟩;have h5:w.grownBy (w.setCell ⟨g,o,none⟩ v) (some g):=Bl (Al w g) rfl v;exact h5.trans h3
theorem AJ{P:Program}{ops:Array Oper}{rest:List Oper}{op:Oper}{a:Act}{w:World}{Q:Exit->Act->World->Prop}(hgd:op.guard=none)(ty:TypeId)(x y:Operand)(ho:op.op= .store ty x y)(g:Nat)(cs:Array Value)(hx:a.eval x= .pointer (some ⟨g,0,none⟩))(hy:a.eval y= .agg cs)(t:TypeId)(old:Array Value)(hB:Blk w g t old)(hsz:old.size=cs.size)(hi:(P.info? ty).map (·.size)=some cs.size)(h1:∀u∈cs.toList,u.oneCell'=true)(h:∀w',Blk w' g t cs->w.grownBy w' (some g)->w'.heap.size=w.heap.size->wpList P ops Q rest (a.put op.dst undef) w'):wpList P ops Q (op::rest) a w:=by
 have hth:w.there g 0 cs.size:=fun j hj=>⟨by
  rw[Nat.zero_add,hB.cell];rw[Array.getElem?_eq_getElem (by omega)];rfl,hB.frozen _⟩
 refine wpList_store_mid hgd ty x y ho g 0 cs hx hy hth hi (Array.all_eq_true_iff_forall_mem.2 fun v hv=>h1 v (by simpa using hv)) ?_;obtain⟨⟨cur',h2,h3⟩,h4,h5⟩:=Cr g t cs.toList 0 w old hB;have e:cur'=cs:=by
  apply Array.ext (by omega);intro i hi1 hi2;have:=World.rangeAt_setCells_same w g 0 cs.toList (by simpa using hth) i cs[i] (by simp[hi2]);rw[Nat.zero_add,h2.cell,Array.getElem?_eq_getElem hi1]at this;exact Option.some.inj this
 subst e;exact h _ h2 h4 h5
theorem CN{α:Type}(f:α->List Value)(m:Nat):∀(l:List α) (_:∀x∈l,(f x).length=m) (k j:Nat) (x:α),l[k]? =some x->j<m->(l.flatMap f)[k*m+j]? =(f x)[j]?
 |[],_,k,j,x,h,_=>by simp at h
 |y::r,hm,0,j,x,h,hj=>by
  simp at h;subst h;rw[List.flatMap_cons,Nat.zero_mul,Nat.zero_add,List.getElem?_append_left (by rw[hm y (by simp)];exact hj)]
 |y::r,hm,k+1,j,x,h,hj=>by
  have hy:(f y).length=m:=hm y (by simp);rw[List.flatMap_cons,List.getElem?_append_right (by rw[hy,Nat.succ_mul];omega),hy,show(k+1)*m+j-m=k*m+j from by rw[Nat.succ_mul];omega];exact CN f m r (fun z hz=>hm z (by simp[hz])) k j x (by simpa using h) hj
theorem AY{α:Type}(f:α->List Value)(m:Nat):∀(l:List α) (_:∀x∈l,(f x).length=m),(l.flatMap f).length=l.length*m
 |[],_=>by simp
 |y::r,hm=>by
  rw[List.flatMap_cons,AI,AY f m r (fun z hz=>hm z (by simp[hz])),hm y (by simp),Ag,Nat.succ_mul,Nat.add_comm]
structure Fd {κ:Type}[DecidableEq κ](P:Program)(kt:TypeId)(enc:κ->Value):Prop where
 desc:∃d,P.underlying kt=some d/\∀k k',Instr.sameNow d (enc k) (enc k')=none
 check:∀b k w,(Instr.checkKey b 10000 kt (enc k)).run P w= .ok () w
 eq:∀k k' w,(Op.equal kt (enc k) (enc k')).run P w= .ok (decide (k=k')) w
 bits:∀k,Instr.sameBits 10000 (enc k) (enc k)=true
section
variable {κ:Type}
def BR[DecidableEq κ](k:κ):List (κ×Value)->Option Value
 |[]=>none
 |p::r=>if k=p.1 then some p.2 else BR k r
def CJ[DecidableEq κ](k:κ)(v:Value):List (κ×Value)->List (κ×Value)
 |[]=>[(k,v)]
 |p::r=>if k=p.1 then(k,v)::r else p::CJ k v r
theorem Cs[DecidableEq κ](k k':κ)(v:Value):∀l,BR k' (CJ k v l)=if k'=k then some v else BR k' l
 |[]=>rfl
 |p::r=>by
  rw[CJ];split
  ·rename_i h
   rw[BR,BR];by_cases h':k'=k
   ·rw[if_pos h',if_pos h']
   ·rw[if_neg h',if_neg h',if_neg (by rw[<-h];exact h')]
  ·rename_i h
   rw[BR,BR,Cs k k' v r];by_cases h':k'=p.1
   ·rw[if_pos h',if_pos h',if_neg (by rw[h'];exact fun e=>h e.symm)]
   ·rw[if_neg h',if_neg h']
theorem MA[DecidableEq κ](k:κ)(v:Value):∀l,(CJ k v l).length<=l.length+1
 |[]=>by simp[CJ]
 |p::r=>by
  rw[CJ];split
  ·simp
  ·have:=MA k v r;simp;omega
def C2(enc:κ->Value)(w:World)(m:Nat)(l:List (κ×Value)):Prop:=
 ∃es clock,w.heap[m]? =some (.map es clock)/\es.toList.map (fun e=>(e.key,e.val))=l.map (fun p=>(enc p.1,p.2))
variable {enc:κ->Value}{w w':World}{m:Nat}{l:List (κ×Value)}{P:Program}{kt:TypeId}
theorem C2.lt(h:C2 enc w m l):m<w.heap.size:=by
 obtain⟨es,c,h1,_⟩:=h;exact(Aa.1 h1).1
theorem C2.below{B':Nat}(h:C2 enc w m l)(hb:Below B' w w')(hm:m<B'):C2 enc w' m l:=by
 obtain⟨es,c,h1,h2⟩:=h;exact⟨es,c,(hb.block m hm).trans h1,h2⟩
theorem C2.kept{row:Option Nat}(h:C2 enc w m l)(hg:w.grownBy w' row)(hm:some m≠row):C2 enc w' m l:=by
 have hl:=h.lt;obtain⟨es,c,h1,h2⟩:=h;exact⟨es,c,(hg.block m hl hm).trans h1,h2⟩
variable [DecidableEq κ]
theorem EH(K:Fd P kt enc)(k:κ)(w:World):∀(es:List MapEntry) (l:List (κ×Value)) (i:Nat),es.map (fun e=>(e.key,e.val))=l.map (fun p=>(enc p.1,p.2))->
  (BR k l=none/\(∀v,CJ k v l=l++[(k,v)])/\(Instr.findAsking kt (enc k) es i).run P w= .ok none w)∨
  ∃j v,BR k l=some v/\(∃e,es[j]? =some e/\e.key=enc k/\e.val=v)/\(∀u,CJ k u l=l.set j (k,u))/\j<l.length/\(Instr.findAsking kt (enc k) es i).run P w= .ok (some (i+j,v)) w
 |[],l,i,h=>by
  have:l=[]:=by simpa using h.symm
  subst this;exact .inl ⟨rfl,fun v=>rfl,rfl⟩
 |e::es,[],i,h=>by simp at h
 |e::es,p::l,i,h=>by
  simp only[List.map_cons,List.cons.injEq,Prod.mk.injEq]at h;obtain⟨⟨h1,h2⟩,h3⟩:=h;by_cases hk:k=p.1
  ·refine .inr ⟨0,p.2,by rw[BR,if_pos hk],⟨e,rfl,by rw[h1,hk],h2⟩,fun u=>by rw[CJ,if_pos hk];rfl,by simp,?_⟩;rw[Instr.findAsking,Sem.run_bind,h1,K.eq,Result.andThen_ok,decide_eq_true hk,if_pos rfl,h2];rfl
  ·rcases EH K k w es l (i+1) h3 with⟨a1,a2,a3⟩|⟨j,v,b1,⟨e',b2,b3,b4⟩,b5,b6,b7⟩
   ·refine .inl ⟨by rw[BR,if_neg hk];exact a1,fun v=>by rw[CJ,if_neg hk,a2];rfl,?_⟩;rw[Instr.findAsking,Sem.run_bind,h1,K.eq,Result.andThen_ok,decide_eq_false hk,if_neg (by simp)];exact a3
   ·refine .inr ⟨j+1,v,by rw[BR,if_neg hk];exact b1,⟨e',by simpa using b2,b3,b4⟩,fun u=>by rw[CJ,if_neg hk,b5];rfl,by simp;omega,?_⟩;rw[Instr.findAsking,Sem.run_bind,h1,K.eq,Result.andThen_ok,decide_eq_false hk,if_neg (by simp)];rw[b7,show i+1+j=i+(j+1)from by omega]
theorem EZ(K:Fd P kt enc)(k:κ)(w:World)(es:List MapEntry)(l:List (κ×Value))(h:es.map (fun e=>(e.key,e.val))=l.map (fun p=>(enc p.1,p.2))):(Instr.findKey kt (enc k) es).run P w=(Instr.findAsking kt (enc k) es 0).run P w:=by
 obtain⟨d,hd,hn⟩:=K.desc;rw[Instr.findKey,Sem.run_bind,run_underlying hd,Result.andThen_ok];rcases es with _|⟨e,es⟩
 ·rfl
 ·rcases l with _|⟨p,l⟩
  ·simp at h
  ·simp only[List.map_cons,List.cons.injEq,Prod.mk.injEq]at h;rw[Instr.findNow,h.1.1,hn]
theorem C2.look(h:C2 enc w m l)(K:Fd P kt enc){t e:TypeId}(ht:P.underlying t=some (.map kt e))(z:Value)(hz:(zeroValue e).run P w= .ok z w)(k:κ)(ok:Bool):(Instr.lookup t (.map (some m)) (enc k) ok).run P w= .ok (if ok then .tuple #[(BR k l).getD z,.bool (BR k l).isSome]else(BR k l).getD z) w:=by
 obtain⟨es,c,h1,h2⟩:=h;unfold Instr.lookup;simp only[Sem.run_bind,run_underlying ht,Result.andThen_ok,MapKept.run_getObj_map h1,K.check,Sem.run_pure,EZ K k w es.toList l h2];rcases EH K k w es.toList l 0 h2 with⟨a1,_,a3⟩|⟨j,v,b1,_,_,_,b7⟩
 ·rw[a3,a1];simp only[Result.andThen_ok,Sem.run_bind,hz,Sem.run_pure];cases ok <;> rfl
 ·rw[b7,b1];simp only[Result.andThen_ok];cases ok <;> rfl
theorem C2.store(h:C2 enc w m l)(K:Fd P kt enc){t e:TypeId}(ht:P.underlying t=some (.map kt e))(k:κ)(v:Value):∃w',(Instr.mapUpdate t (.map (some m)) (enc k) v).run P w= .ok () w'/\C2 enc w' m (CJ k v l)/\w.grownBy w' (some m)/\w'.heap.size=w.heap.size:=by
 obtain⟨es,c,h1,h2⟩:=h;have hlt:=(Aa.1 h1).1;have put:∀o:Obj,({w with heap:=w.heap.setIfInBounds m o}:World).heap[m]? =some o:=fun o=>by simp[hlt]
 have gr:∀o:Obj,w.grownBy {w with heap:=w.heap.setIfInBounds m o} (some m):=fun o=>⟨rfl,rfl,rfl,by simp,fun i hi hne=>by
  have:m≠i:=fun e=>hne (by rw[e])
  simp[this]⟩
 unfold Instr.mapUpdate;simp only[Sem.run_bind,run_underlying ht,Result.andThen_ok,MapKept.run_getObj_map h1,K.check,EZ K k w es.toList l h2];rcases EH K k w es.toList l 0 h2 with⟨_,a2,a3⟩|⟨j,u,_,⟨e',b2,b3,b4⟩,b5,b6,b7⟩
 ·rw[a3];simp only[Result.andThen_ok];refine⟨_,MapKept.run_setObj_map _ h1,⟨_,_,put _,?_⟩,gr _,by simp⟩;rw[a2];simp[h2]
 ·rw[b7];simp only[Result.andThen_ok,Sem.run_bind,Nat.zero_add];have he:es[j]? =some e':=by rw[<-Array.getElem?_toList];exact b2
  have hs:(Instr.keyThatStays (((es[j]?).map (·.key)).getD (enc k)) (enc k)).run P w= .ok (enc k) w:=by
   rw[he];unfold Instr.keyThatStays;simp only[Option.map_some,Option.getD_some,b3,K.bits,if_true];rfl
  rw[hs];simp only[Result.andThen_ok];refine⟨_,MapKept.run_setObj_map _ h1,⟨_,_,put _,?_⟩,gr _,by simp⟩;rw[b5];apply List.ext_getElem?;intro i;have h3:=congrArg (fun x=>x[i]?) h2;simp only[AV,Array.getElem?_toList]at h3 ⊢;rw[Array.getElem?_modify,List.getElem?_set];by_cases hij:j=i
  ·subst hij;simp[he,b6]
  ·simp[hij,h3]
end
theorem u8x(a b:UInt8):((a.toNat:Int)=(b.toNat:Int))=(a=b):=
 propext ⟨fun h=>UInt8.toNat_inj.1 (by omega),fun h=>by rw[h]⟩
theorem FN{p q r:Prop}[Decidable p][Decidable q][Decidable r](w:World)(h:(p/\q)=r):(if p then Result.ok (decide q) w else Result.ok false w)=Result.ok (decide r) w:=by
 subst h;by_cases hp:p <;> simp[hp]
theorem Ez{p:Prop}[Decidable p](w:World):(if p then Result.ok true w else Result.ok false w)=Result.ok (decide p) w:=by
 by_cases hp:p <;> simp[hp]
theorem EW(a b:Nm)(w:World)(d:Nat):(Op.equalIn (d+2) 24 a.val b.val).run prog w= .ok (decide (a=b)) w:=by
 have u3:=underlying5;have a3:=isAgg5;have z3:=sizeOf5;rw[Op.equalIn];simp only[Sem.run_bind,run_underlying underlying24,Result.andThen_ok];simp only[Std.Legacy.Range.forIn_eq_forIn_range',Std.Legacy.Range.size,Nat.sub_zero,Nat.add_sub_cancel,Nat.div_one,List.range'_succ,List.range'_zero,List.forIn_cons,List.forIn_nil];go_simp;simp only[u8x];rw[Ez]
 iterate 6 rw[FN w rfl]
 refine FN w ?_;cases a;cases b;simp
theorem UZ(a b:Vt)(w:World):(Op.equalIn 10000 46 a.val b.val).run prog w= .ok (decide (a=b)) w:=by
 have u3:=underlying3;have a3:=isAgg3;have z3:=sizeOf3;have u4:=underlying22;have a4:=isAgg22;have z4:=sizeOf22;have a5:=isAgg24;have z5:=sizeOf24;have hS:prog.underlying 46=some (.struct (prog.fieldsOf 46)):=by kernel_rfl
 rw[show(10000:Nat)=9999+1 from rfl,run_equalIn_agg w 9999 46 _ _ hS (by kernel_rfl)];have e6:=fun w=>EW a.parent b.parent w 9997
 have e7:=fun w=>EW a.value b.value w 9997
 simp only[Program.fieldsOf,underlying46];go_simp;rw[Ez]
 iterate 6 rw[FN w rfl]
 refine FN w ?_;cases a;cases b;simp
theorem Io(a:Nm)(w:World):(Op.equalIn 10000 24 a.val (.agg #[.int .u8 0,.int .u8 0,.int .u8 0,.int .u8 0,.int .u8 0,.int .u8 0,.int .u8 0,.int .u8 0])).run prog w= .ok (decide (a=Nm.zero)) w:=EW a Nm.zero w 9998
def btw(n lo hi:Int):Bool:=decide (lo<=n)&&decide (n<=hi)
theorem Bt(n lo hi:Int)(w:World):Calls prog 84 #[.int .i64 n,.int .i64 lo,.int .i64 hi] w fun e w'=>e= .returned (.bool (btw n lo hi))/\w'=w:=by
 go_enter func84,ntmps84;go_wp2
 ·go_ret;have h:lo<=n:=by assumption
  exact⟨by simp[btw,h],rfl⟩
 ·go_ret;have h:n<lo:=by assumption
  have h':¬lo<=n:=by omega
  exact⟨by simp[btw,h'],rfl⟩
theorem Po(x c:BitVec 64):x&&& ~~~c=0#64↔x=x&&& c:=by
 constructor
 ·intro h;apply BitVec.eq_of_getLsbD_eq;intro i hi;have:=congrArg (fun y=>BitVec.getLsbD y i) h;simp only[BitVec.getLsbD_and,BitVec.getLsbD_not,hi,decide_true,Bool.true_and,BitVec.getLsbD_zero]at this;rw[BitVec.getLsbD_and];revert this;cases x.getLsbD i <;> cases c.getLsbD i <;> simp
 ·intro h;rw[h];apply BitVec.eq_of_getLsbD_eq;intro i hi;simp[hi]
theorem CW(s:Int)(h1: -9223372036854775808<=s)(h2:s<=9223372036854775807):(bits .andNot .i64 s 1023=0)↔(0<=s/\s<=1023):=by
 show IntKind.i64.wrap ((BitVec.ofInt 64 s&&& ~~~ BitVec.ofInt 64 1023).toNat:Int)=0↔_;have hx:((BitVec.ofInt 64 s).toNat:Int)=s%18446744073709551616:=by
  rw[BitVec.toNat_ofInt];omega
 have hw:∀y:BitVec 64,IntKind.i64.wrap (y.toNat:Int)=0↔y=0#64:=by
  intro y;have:=y.isLt;rw[IntKind.wrap_i64];constructor
  ·intro h;apply BitVec.eq_of_toNat_eq;simp;omega
  ·rintro rfl;simp
 rw[hw,Po];generalize BitVec.ofInt 64 s=x at*;have h3:(x&&& BitVec.ofInt 64 1023).toNat=x.toNat%1024:=by
  rw[BitVec.toNat_and];show x.toNat&&& (2^10-1)=_;rw[Nat.and_two_pow_sub_one_eq_mod]
 constructor
 ·intro h;have:=congrArg BitVec.toNat h;rw[h3]at this;omega
 ·intro h;apply BitVec.eq_of_toNat_eq;rw[h3];omega
def AW(v:Vt):Prop:=(1<=v.kind/\v.kind<=7)/\(0<=v.signer/\v.signer<=9)/\((v.choice=1)↔¬v.value=Nm.zero)/\(0<=v.support/\v.support<=1023)/\
 ((v.kind=1∨v.kind=2)->(0<=v.slot/\v.slot<=9)/\v.round=0/\v.support=0/\v.choice=1)/\
 (v.kind=3->(0<=v.slot/\v.slot<=9)/\(1<=v.round/\v.round<=12)/\(0<=v.choice/\v.choice<=1)/\(v.round≠1∨v.choice≠0∨v.support=0))/\
 (v.kind=4->(0<=v.slot/\v.slot<=9)/\(1<=v.round/\v.round<=12)/\(0<=v.choice/\v.choice<=2))/\
 (5<=v.kind->v.slot=0/\v.round=0/\v.support=0/\v.choice=1)
instance (v:Vt):Decidable (AW v):=by unfold AW;infer_instance
def Vt.ok(v:Vt):Prop:=-9223372036854775808<=v.support/\v.support<=9223372036854775807
theorem FO{P:Program}{f:FuncId}{args:Array Value}{w:World}{a n:Nat}{v:Value}(h:Calls P f args (w.drewN (a+n)) fun e w'=>e= .returned v/\w'=w.drewN (a+n)):Calls P f args (w.drewN (a+n)) fun e w''=>e= .returned v/\∃m,w''=w.drewN (a+m):=
 h.mono fun _ _ ⟨he,hm⟩=>⟨he,n,hm⟩
theorem E4{a b:Bool}(h:a=b):Ending.returned (.bool a)= .returned (.bool b):=by rw[h]
theorem GI(n lo hi:Int):(btw n lo hi=true)=(lo<=n/\n<=hi):=by simp[btw]
theorem Gz{b:Bool}{p:Prop}[Decidable p](h:b=true↔p):b=decide p:=by
 by_cases hp:p
 ·rw[decide_eq_true hp];exact h.2 hp
 ·rw[decide_eq_false hp];exact Bool.eq_false_iff.2 fun hb=>hp (h.1 hb)
theorem I5(v:Vt)(w:World)(hv:v.ok)(hk:btw v.kind 1 7=true)(hs:btw v.signer 0 9=true)(zb:Bool)(hc:(v.choice==1)=true)(hzb:zb=decide (v.value=Nm.zero))(hz:zb=false)(hr:(v.round==0)=true):Calls prog 49 #[v.val] w fun e w'=>e= .returned (.bool (decide (AW v)))/\Wx w w':=by
 have e0:=fun w=>Io v.value w
 rw[<-hzb]at e0;have Hzb:=AA hzb;clear hzb;subst hz;go_enter func49,ntmps49;go_wp2_with ((go_at_call 84;refine(Bt _ _ _ _).mono ?_;rintro e w' ⟨rfl,rfl⟩))
 go_quiet (fail)
 go_wp2_with ((go_at_call 84;refine(Bt _ _ _ _).mono ?_;rintro e w' ⟨rfl,rfl⟩))
 ·go_ret;refine⟨E4 ?_,BJ ((AC _ _).alloc (AB _) _) _⟩;have hn:¬(0<=v.support/\v.support<=1023):=by rw[<-CW _ hv.1 hv.2];exact bne_iff_ne.1 ‹_›
  have hp:¬AW v:=fun h=>hn h.2.2.2.1
  simp[hp]
 ·have hh:(bits BinOp.andNot IntKind.i64 v.support 1023 !=0)=false:=by assumption
  have hn:(0<=v.support/\v.support<=1023):=by rw[<-CW _ hv.1 hv.2];simpa using hh
  clear hh;have HN:=AA hn;clear hn
  go_quiet (fail)
  go_wp2_with ((go_at_call 84;refine(Bt _ _ _ _).mono ?_;rintro e w' ⟨rfl,rfl⟩))
  all_goals (try (go_quiet ((go_at_call 84;exact FO (Bt _ _ _ _)))))
  all_goals (try (go_wp2_with ((go_at_call 84;refine(Bt _ _ _ _).mono ?_;rintro e w' ⟨rfl,rfl⟩))))
  all_goals (try go_ret)
  all_goals (refine⟨E4 (Gz ?_),by repeat (first|exact(AC _ _).alloc (AB _) _|refine BJ ?_ _)⟩)
  all_goals (have hz:¬v.value=Nm.zero:=(by simpa using Hzb.out))
  all_goals (have hn:=HN.out)
  all_goals (simp only[GI,beq_iff_eq,beq_eq_false_iff_ne]at*)
  all_goals (unfold AW)
  all_goals (simp only[hz,not_false_eq_true,iff_true,true_iff,false_iff,Bool.false_eq_true])
  all_goals omega
theorem IR(v:Vt)(w:World)(hv:v.ok)(hk:btw v.kind 1 7=true)(hs:btw v.signer 0 9=true)(zb:Bool)(hc:(v.choice==1)=true)(hzb:zb=decide (v.value=Nm.zero))(hz:zb=false)(hr:(v.round==0)=false):Calls prog 49 #[v.val] w fun e w'=>e= .returned (.bool (decide (AW v)))/\Wx w w':=by
 have e0:=fun w=>Io v.value w
 rw[<-hzb]at e0;have Hzb:=AA hzb;clear hzb;subst hz;go_enter func49,ntmps49;go_wp2_with ((go_at_call 84;refine(Bt _ _ _ _).mono ?_;rintro e w' ⟨rfl,rfl⟩))
 go_quiet (fail)
 go_wp2_with ((go_at_call 84;refine(Bt _ _ _ _).mono ?_;rintro e w' ⟨rfl,rfl⟩))
 ·go_ret;refine⟨E4 ?_,BJ ((AC _ _).alloc (AB _) _) _⟩;have hn:¬(0<=v.support/\v.support<=1023):=by rw[<-CW _ hv.1 hv.2];exact bne_iff_ne.1 ‹_›
  have hp:¬AW v:=fun h=>hn h.2.2.2.1
  simp[hp]
 ·have hh:(bits BinOp.andNot IntKind.i64 v.support 1023 !=0)=false:=by assumption
  have hn:(0<=v.support/\v.support<=1023):=by rw[<-CW _ hv.1 hv.2];simpa using hh
  clear hh;have HN:=AA hn;clear hn
  go_quiet (fail)
  go_wp2_with ((go_at_call 84;refine(Bt _ _ _ _).mono ?_;rintro e w' ⟨rfl,rfl⟩))
  all_goals (try (go_quiet ((go_at_call 84;exact FO (Bt _ _ _ _)))))
  all_goals (try (go_wp2_with ((go_at_call 84;refine(Bt _ _ _ _).mono ?_;rintro e w' ⟨rfl,rfl⟩))))
  all_goals (try go_ret)
  all_goals (refine⟨E4 (Gz ?_),by repeat (first|exact(AC _ _).alloc (AB _) _|refine BJ ?_ _)⟩)
  all_goals (have hz:¬v.value=Nm.zero:=(by simpa using Hzb.out))
  all_goals (have hn:=HN.out)
  all_goals (simp only[GI,beq_iff_eq,beq_eq_false_iff_ne]at*)
  all_goals (unfold AW)
  all_goals (simp only[hz,not_false_eq_true,iff_true,true_iff,false_iff,Bool.false_eq_true])
  all_goals omega
theorem IS(v:Vt)(w:World)(hv:v.ok)(hk:btw v.kind 1 7=true)(hs:btw v.signer 0 9=true)(zb:Bool)(hc:(v.choice==1)=false)(hzb:zb=decide (v.value=Nm.zero))(hz:zb=true)(hr:(v.round==0)=true):Calls prog 49 #[v.val] w fun e w'=>e= .returned (.bool (decide (AW v)))/\Wx w w':=by
 have e0:=fun w=>Io v.value w
 rw[<-hzb]at e0;have Hzb:=AA hzb;clear hzb;subst hz;go_enter func49,ntmps49;go_wp2_with ((go_at_call 84;refine(Bt _ _ _ _).mono ?_;rintro e w' ⟨rfl,rfl⟩))
 go_quiet (fail)
 go_wp2_with ((go_at_call 84;refine(Bt _ _ _ _).mono ?_;rintro e w' ⟨rfl,rfl⟩))
 ·go_ret;refine⟨E4 ?_,BJ ((AC _ _).alloc (AB _) _) _⟩;have hn:¬(0<=v.support/\v.support<=1023):=by rw[<-CW _ hv.1 hv.2];exact bne_iff_ne.1 ‹_›
  have hp:¬AW v:=fun h=>hn h.2.2.2.1
  simp[hp]
 ·have hh:(bits BinOp.andNot IntKind.i64 v.support 1023 !=0)=false:=by assumption
  have hn:(0<=v.support/\v.support<=1023):=by rw[<-CW _ hv.1 hv.2];simpa using hh
  clear hh;have HN:=AA hn;clear hn
  go_quiet (fail)
  go_wp2_with ((go_at_call 84;refine(Bt _ _ _ _).mono ?_;rintro e w' ⟨rfl,rfl⟩))
  all_goals (try (go_quiet ((go_at_call 84;exact FO (Bt _ _ _ _)))))
  all_goals (try (go_wp2_with ((go_at_call 84;refine(Bt _ _ _ _).mono ?_;rintro e w' ⟨rfl,rfl⟩))))
  all_goals (try go_ret)
  all_goals (refine⟨E4 (Gz ?_),by repeat (first|exact(AC _ _).alloc (AB _) _|refine BJ ?_ _)⟩)
  all_goals (have hz:v.value=Nm.zero:=(by simpa using Hzb.out))
  all_goals (have hn:=HN.out)
  all_goals (simp only[GI,beq_iff_eq,beq_eq_false_iff_ne]at*)
  all_goals (unfold AW)
  all_goals (simp only[hz,not_true_eq_false,iff_false,true_iff,false_iff,Bool.false_eq_true])
  all_goals omega
theorem G0(v:Vt)(w:World)(hv:v.ok)(hk:btw v.kind 1 7=true)(hs:btw v.signer 0 9=true)(zb:Bool)(hc:(v.choice==1)=false)(hzb:zb=decide (v.value=Nm.zero))(hz:zb=true)(hr:(v.round==0)=false):Calls prog 49 #[v.val] w fun e w'=>e= .returned (.bool (decide (AW v)))/\Wx w w':=by
 have e0:=fun w=>Io v.value w
 rw[<-hzb]at e0;have Hzb:=AA hzb;clear hzb;subst hz;go_enter func49,ntmps49;go_wp2_with ((go_at_call 84;refine(Bt _ _ _ _).mono ?_;rintro e w' ⟨rfl,rfl⟩))
 go_quiet (fail)
 go_wp2_with ((go_at_call 84;refine(Bt _ _ _ _).mono ?_;rintro e w' ⟨rfl,rfl⟩))
 ·go_ret;refine⟨E4 ?_,BJ ((AC _ _).alloc (AB _) _) _⟩;have hn:¬(0<=v.support/\v.support<=1023):=by rw[<-CW _ hv.1 hv.2];exact bne_iff_ne.1 ‹_›
  have hp:¬AW v:=fun h=>hn h.2.2.2.1
  simp[hp]
 ·have hh:(bits BinOp.andNot IntKind.i64 v.support 1023 !=0)=false:=by assumption
  have hn:(0<=v.support/\v.support<=1023):=by rw[<-CW _ hv.1 hv.2];simpa using hh
  clear hh;have HN:=AA hn;clear hn
  go_quiet (fail)
  go_wp2_with ((go_at_call 84;refine(Bt _ _ _ _).mono ?_;rintro e w' ⟨rfl,rfl⟩))
  all_goals (try (go_quiet ((go_at_call 84;exact FO (Bt _ _ _ _)))))
  all_goals (try (go_wp2_with ((go_at_call 84;refine(Bt _ _ _ _).mono ?_;rintro e w' ⟨rfl,rfl⟩))))
  all_goals (try go_ret)
  all_goals (refine⟨E4 (Gz ?_),by repeat (first|exact(AC _ _).alloc (AB _) _|refine BJ ?_ _)⟩)
  all_goals (have hz:v.value=Nm.zero:=(by simpa using Hzb.out))
  all_goals (have hn:=HN.out)
  all_goals (simp only[GI,beq_iff_eq,beq_eq_false_iff_ne]at*)
  all_goals (unfold AW)
  all_goals (simp only[hz,not_true_eq_false,iff_false,true_iff,false_iff,Bool.false_eq_true])
  all_goals omega
theorem De(v:Vt)(w:World)(hv:v.ok):Calls prog 49 #[v.val] w fun e w'=>e= .returned (.bool (decide (AW v)))/\Wx w w':=by
 by_cases hk:btw v.kind 1 7=true
 case neg=>
  have hp:¬AW v:=fun h=>hk (by rw[GI];exact h.1)
  have HP:=AA hp;clear hp;rw[Bool.not_eq_true]at hk;go_enter func49,ntmps49;go_wp2_with ((go_at_call 84;refine(Bt _ _ _ _).mono ?_;rintro e w' ⟨rfl,rfl⟩))
  go_ret;exact⟨E4 (decide_eq_false HP.out).symm,(AC _ _).alloc (AB _) _⟩
 by_cases hs:btw v.signer 0 9=true
 case neg=>
  have hp:¬AW v:=fun h=>hs (by rw[GI];exact h.2.1)
  have HP:=AA hp;clear hp;rw[Bool.not_eq_true]at hs;go_enter func49,ntmps49;go_wp2_with ((go_at_call 84;refine(Bt _ _ _ _).mono ?_;rintro e w' ⟨rfl,rfl⟩))
  go_ret;exact⟨E4 (decide_eq_false HP.out).symm,(AC _ _).alloc (AB _) _⟩
 by_cases hz:v.value=Nm.zero
 ·by_cases hc:v.choice=1
  ·have hp:¬AW v:=fun h=>absurd hz (h.2.2.1.1 hc)
   have HP:=AA hp;clear hp;obtain⟨zb,hzb⟩:=Wr (decide (v.value=Nm.zero));have e0:=fun w=>Io v.value w
   rw[<-hzb]at e0;obtain rfl:zb=true:=by rw[hzb];exact decide_eq_true hz
   clear hzb hz;have hc':(v.choice==1)=true:=beq_iff_eq.2 hc;clear hc;go_enter func49,ntmps49;go_wp2_with ((go_at_call 84;refine(Bt _ _ _ _).mono ?_;rintro e w' ⟨rfl,rfl⟩))
   go_quiet (fail)
   go_wp2;go_ret;exact⟨E4 (decide_eq_false HP.out).symm,BJ ((AC _ _).alloc (AB _) _) _⟩
  ·by_cases hr:v.round=0
   ·exact IS v w hv hk hs true (beq_eq_false_iff_ne.2 hc) (decide_eq_true hz).symm rfl (beq_iff_eq.2 hr)
   ·exact G0 v w hv hk hs true (beq_eq_false_iff_ne.2 hc) (decide_eq_true hz).symm rfl (beq_eq_false_iff_ne.2 hr)
 ·by_cases hc:v.choice=1
  ·by_cases hr:v.round=0
   ·exact I5 v w hv hk hs false (beq_iff_eq.2 hc) (decide_eq_false hz).symm rfl (beq_iff_eq.2 hr)
   ·exact IR v w hv hk hs false (beq_iff_eq.2 hc) (decide_eq_false hz).symm rfl (beq_eq_false_iff_ne.2 hr)
  ·have hp:¬AW v:=fun h=>hc (h.2.2.1.2 hz)
   have HP:=AA hp;clear hp;obtain⟨zb,hzb⟩:=Wr (decide (v.value=Nm.zero));have e0:=fun w=>Io v.value w
   rw[<-hzb]at e0;obtain rfl:zb=false:=by rw[hzb];exact decide_eq_false hz
   clear hzb hz;have hc':(v.choice==1)=false:=beq_eq_false_iff_ne.2 hc;clear hc;go_enter func49,ntmps49;go_wp2_with ((go_at_call 84;refine(Bt _ _ _ _).mono ?_;rintro e w' ⟨rfl,rfl⟩))
   go_quiet (fail)
   go_wp2;go_ret;exact⟨E4 (decide_eq_false HP.out).symm,BJ ((AC _ _).alloc (AB _) _) _⟩
abbrev DM(k:Int×Int):Value:=.agg #[I k.1,I k.2]
theorem Sw(a b:Int×Int)(w:World):(Op.equal 202 (DM a) (DM b)).run prog w= .ok (decide (a=b)) w:=by
 show(Op.equalIn 10000 202 (DM a) (DM b)).run prog w=_;have u3:=underlying3;have a3:=isAgg3;have z3:=sizeOf3;rw[Op.equalIn];simp only[Sem.run_bind,run_underlying underlying202,Result.andThen_ok];simp only[Std.Legacy.Range.forIn_eq_forIn_range',Std.Legacy.Range.size,Nat.sub_zero,Nat.add_sub_cancel,Nat.div_one,List.range'_succ,List.range'_zero,List.forIn_cons,List.forIn_nil];go_simp;rw[Ez];refine FN w ?_;cases a;cases b;simp
theorem IT(b:Bool)(d:Nat)(n:Int)(w:World):(Instr.checkKey b (d+1) 3 (.int .i64 n)).run prog w= .ok () w:=by
 rw[Instr.checkKey,Sem.run_bind,run_underlying underlying3];rfl
theorem ND(b:Bool)(d:Nat)(n:Int)(w:World):(Instr.checkKey b (d+1) 5 (.int .u8 n)).run prog w= .ok () w:=by
 rw[Instr.checkKey,Sem.run_bind,run_underlying underlying5];rfl
theorem NG(b:Bool)(k:Int×Int)(w:World):(Instr.checkKey b 10000 202 (DM k)).run prog w= .ok () w:=by
 have a3:=isAgg3;have z3:=sizeOf3;have hi:=fun n w=>IT b 9998 n w
 rw[Instr.checkKey];simp only[Sem.run_bind,run_underlying underlying202,Result.andThen_ok];simp only[Std.Legacy.Range.forIn_eq_forIn_range',Std.Legacy.Range.size,Nat.sub_zero,Nat.add_sub_cancel,Nat.div_one,List.range'_succ,List.range'_zero,List.forIn_cons,List.forIn_nil];go_simp
theorem G7(n:Nat)(cs:Array Value)(h:∀v∈cs.toList,Instr.sameBits n v v=true):Instr.sameBits (n+1) (.agg cs) (.agg cs)=true:=by
 rw[Instr.sameBits,Bool.and_eq_true];refine⟨by simp,?_⟩;rw[List.all_eq_true];intro p hp;obtain⟨i,hi⟩:=List.mem_iff_getElem?.1 hp;rw[List.getElem?_zip_eq_some]at hi;have e:p.1=p.2:=by
  have:=hi.1.symm.trans hi.2;exact Option.some.inj this
 obtain⟨p1,p2⟩:=p;simp only at e;subst e;exact h p1 (AN hi.1)
theorem Pp:Fd prog 202 DM where
 desc:=⟨_,underlying202,fun _ _=>rfl⟩
 check:=NG
 eq:=Sw
 bits k:=G7 9999 _ (by intro v hv;simp at hv;rcases hv with rfl|rfl <;> simp[Instr.sameBits])
end
section
open Go.RowKit
open Go.ChangeMaps (setBlock)
section
variable {κ:Type}
def Bj(enc:κ->Value)(w:World)(m:Nat)(l:List (κ×Value)):Prop:=
 ∃es clock,w.heap[m]? =some (.map es clock)/\es.toList.map (fun e=>(e.key,e.val))=l.map (fun p=>(enc p.1,p.2))/\(es.toList.map (·.born)).Nodup/\∀e∈es.toList,e.born<clock
def Rng(enc:κ->Value)(w:World)(m r:Nat)(l:List (κ×Value))(cnt:Nat):Prop:=
 ∃es clock since c0 seen,w.heap[m]? =some (.map es clock)/\w.heap[r]? =some (.mapIter (some m) since seen c0)/\es.toList.map (fun e=>(e.key,e.val))=l.map (fun p=>(enc p.1,p.2))/\(es.toList.map (·.born)).Nodup/\(∀e∈es.toList,e.born<since)/\since<=c0/\since<=clock/\cnt=(leftOf es seen).size
def JN(m r:Nat)(w:World):Nat:=match w.heap[m]?,w.heap[r]? with
 |some (.map es _),some (.mapIter _ _ seen _)=>(leftOf es seen).size
 |_,_=>0
variable {enc:κ->Value}{w w':World}{m r cnt:Nat}{l:List (κ×Value)}{P:Program}{kt:TypeId}
theorem Bj.is(h:Bj enc w m l):C2 enc w m l:=by
 obtain⟨es,c,h1,h2,_⟩:=h;exact⟨es,c,h1,h2⟩
theorem Bj.new(enc:κ->Value)(w:World):Bj enc (w.alloc (.map #[] 0)) w.heap.size []:=⟨#[],0,heap_alloc_new w _,rfl,by simp,by simp⟩
theorem Bj.alloc(h:Bj enc w m l)(o:Obj):Bj enc (w.alloc o) m l:=by
 have hl:=h.is.lt;obtain⟨es,c,h1,h2⟩:=h;exact⟨es,c,(Below.heap_alloc w o m hl).trans h1,h2⟩
theorem Bj.below{B':Nat}(h:Bj enc w m l)(hb:Below B' w w')(hm:m<B'):Bj enc w' m l:=by
 obtain⟨es,c,h1,h2⟩:=h;exact⟨es,c,(hb.block m hm).trans h1,h2⟩
theorem Bj.kept{row:Option Nat}(h:Bj enc w m l)(hg:w.grownBy w' row)(hm:some m≠row):Bj enc w' m l:=by
 have hl:=h.is.lt;obtain⟨es,c,h1,h2⟩:=h;exact⟨es,c,(hg.block m hl hm).trans h1,h2⟩
theorem Rng.left_eq(h:Rng enc w m r l cnt):JN m r w=cnt:=by
 obtain⟨es,c,s,c0,seen,h1,h2,_,_,_,_,_,h8⟩:=h;unfold JN;rw[h1,h2,h8]
theorem Rng.lt(h:Rng enc w m r l cnt):r<w.heap.size:=by
 obtain⟨es,c,s,c0,seen,h1,h2,_⟩:=h;exact(Aa.1 h2).1
theorem Rng.mlt(h:Rng enc w m r l cnt):m<w.heap.size:=by
 obtain⟨es,c,s,c0,seen,h1,h2,_⟩:=h;exact(Aa.1 h1).1
theorem DH(es:Array MapEntry)(j:Nat)(f:MapEntry->MapEntry)(hf:∀e,(f e).born=e.born):(es.modify j f).toList.map (·.born)=es.toList.map (·.born):=by
 apply List.ext_getElem?;intro i;simp only[AV,Array.getElem?_toList,Array.getElem?_modify];split
 ·rw[Option.map_map];congr 1
  funext e
  exact hf e
 ·rfl
variable [DecidableEq κ]
theorem Bj.store(h:Bj enc w m l)(K:Fd P kt enc){t e:TypeId}(ht:P.underlying t=some (.map kt e))(k:κ)(v:Value):∃w',(Instr.mapUpdate t (.map (some m)) (enc k) v).run P w= .ok () w'/\Bj enc w' m (CJ k v l)/\w.grownBy w' (some m)/\w'.heap.size=w.heap.size:=by
 obtain⟨es,c,h1,h2,h3,h4⟩:=h;have hlt:=(Aa.1 h1).1;have put:∀o:Obj,({w with heap:=w.heap.setIfInBounds m o}:World).heap[m]? =some o:=fun o=>by simp[hlt]
 have gr:∀o:Obj,w.grownBy {w with heap:=w.heap.setIfInBounds m o} (some m):=fun o=>⟨rfl,rfl,rfl,by simp,fun i hi hne=>by
  have:m≠i:=fun e=>hne (by rw[e])
  simp[this]⟩
 unfold Instr.mapUpdate;simp only[Sem.run_bind,run_underlying ht,Result.andThen_ok,MapKept.run_getObj_map h1,K.check,EZ K k w es.toList l h2];rcases EH K k w es.toList l 0 h2 with⟨_,a2,a3⟩|⟨j,u,_,⟨e',b2,b3,b4⟩,b5,b6,b7⟩
 ·rw[a3];simp only[Result.andThen_ok];refine⟨_,MapKept.run_setObj_map _ h1,⟨_,_,put _,?_,?_,?_⟩,gr _,by simp⟩
  ·rw[a2];simp[h2]
  ·rw[Array.toList_push,Ad,List.nodup_append];refine⟨h3,by simp,?_⟩;intro x hx y hy;obtain⟨e1,he1,rfl⟩:=List.mem_map.1 hx;simp only[List.map_cons,List.map_nil,AM]at hy;have:=h4 e1 he1;omega
  ·intro x hx;rw[Array.toList_push]at hx;rcases AP.1 hx with hx|hx
   ·have:=h4 x hx;omega
   ·rw[AM.1 hx];exact Nat.lt_succ_self c
 ·rw[b7];simp only[Result.andThen_ok,Sem.run_bind,Nat.zero_add];have he:es[j]? =some e':=by rw[<-Array.getElem?_toList];exact b2
  have hs:(Instr.keyThatStays (((es[j]?).map (·.key)).getD (enc k)) (enc k)).run P w= .ok (enc k) w:=by
   rw[he];unfold Instr.keyThatStays;simp only[Option.map_some,Option.getD_some,b3,K.bits,if_true];rfl
  rw[hs];simp only[Result.andThen_ok];refine⟨_,MapKept.run_setObj_map _ h1,⟨_,_,put _,?_,?_,?_⟩,gr _,by simp⟩
  ·rw[b5];apply List.ext_getElem?;intro i;have h3:=congrArg (fun x=>x[i]?) h2;simp only[AV,Array.getElem?_toList]at h3 ⊢;rw[Array.getElem?_modify,List.getElem?_set];by_cases hij:j=i
   ·subst hij;simp[he,b6]
   ·simp[hij,h3]
  ·rw[DH es j (fun e=>{e with key:=enc k,val:=v}) (fun _=>rfl)];exact h3
  ·intro x hx;have hb:x.born∈(es.toList.map (·.born)):=by
    rw[<-DH es j (fun e=>{e with key:=enc k,val:=v}) (fun _=>rfl)];exact List.mem_map.2 ⟨x,hx,rfl⟩
   obtain⟨y,hy,hyb⟩:=List.mem_map.1 hb;rw[<-hyb];exact h4 y hy
end
section
variable {κ:Type}{enc:κ->Value}{P:Program}(w:World){ops:Array Oper}{rest:List Oper}{o:Oper}{a:Act}{Q:Exit->Act->World->Prop}
end
end
section
open Go.RowKit
section
variable {κ:Type}{enc:κ->Value}{w w':World}{m b:Nat}{l:List (κ×Value)}{P:Program}{kt:TypeId}{k:κ}
def Upd[DecidableEq κ](k:κ)(v:Value)(l l':List (κ×Value)):Prop:=∀p∈l',p∈l∨p=(k,v)
theorem Gb:∀(es:List MapEntry) (i:Nat) (e:MapEntry),(es.map (·.born)).Nodup->es[i]? =some e->es.findIdx? (fun x=>(x.born:Int)==(e.born:Int))=some i
 |[],i,e,_,h=>by simp at h
 |x::r,0,e,_,h=>by
  simp at h;subst h;simp[List.findIdx?_cons]
 |x::r,i+1,e,hn,h=>by
  simp only[List.getElem?_cons_succ]at h;rw[List.map_cons,List.nodup_cons]at hn;have hne:x.born≠e.born:=fun he=>hn.1 (by rw[he];exact List.mem_map.2 ⟨e,AN h,rfl⟩)
  have hb:((x.born:Int)==(e.born:Int))=false:=by simp;omega
  rw[List.findIdx?_cons,hb,Gb r i e hn.2 h];rfl
variable [DecidableEq κ]
theorem Qr(k:κ):∀(j:Nat) (l:List (κ×Value)),(∀v,CJ k v l=l.set j (k,v))->j<l.length->(l[j]?).map (·.1)=some k
 |j,[],_,h=>by simp at h
 |0,p::r,h,_=>by
  by_cases hk:k=p.1
  ·simp[hk]
  ·have:=h undef;rw[CJ,if_neg hk,List.set_cons_zero,List.cons.injEq]at this;exact absurd (by rw[this.1]) hk
 |j+1,p::r,h,hj=>by
  by_cases hk:k=p.1
  ·have h1:=h (.bool true);have h2:=h (.bool false);rw[CJ,if_pos hk,List.set_cons_succ,List.cons.injEq]at h1 h2;have:=h1.1.trans h2.1.symm;injection this with _ h3
   injection h3 with h3
   cases h3
  ·rw[List.getElem?_cons_succ];refine Qr k j r (fun v=>?_) (by simpa using hj);have:=h v;rw[CJ,if_neg hk,List.set_cons_succ,List.cons.injEq]at this;exact this.2
end
def MB(v k:UInt64):UInt64:=v<<<k|||v>>>(64-k)
theorem Ua(v:UInt64):bits BinOp.or IntKind.u64 (IntKind.u64.wrap ((v.toNat:Int)*8192)) ((v.toNat:Int)/2251799813685248)=((MB v 13).toNat:Int):=by
 have h1:IntKind.u64.wrap ((v.toNat:Int)*8192)=((v<<<(13:UInt64)).toNat:Int):=by
  rw[UInt64.toNat_shiftLeft,IntKind.wrap_u64];simp only[show((13:UInt64).toNat%64)=13 from rfl,Nat.shiftLeft_eq];omega
 have h2:((v.toNat:Int)/2251799813685248)=((v>>>(64-13:UInt64)).toNat:Int):=by
  rw[UInt64.toNat_shiftRight];simp only[show((64-13:UInt64).toNat%64)=51 from rfl,Nat.shiftRight_eq_div_pow];omega
 rw[h1,h2,Vh];rfl
theorem Ub(v:UInt64):bits BinOp.or IntKind.u64 (IntKind.u64.wrap ((v.toNat:Int)*4294967296)) ((v.toNat:Int)/4294967296)=((MB v 32).toNat:Int):=by
 have h1:IntKind.u64.wrap ((v.toNat:Int)*4294967296)=((v<<<(32:UInt64)).toNat:Int):=by
  rw[UInt64.toNat_shiftLeft,IntKind.wrap_u64];simp only[show((32:UInt64).toNat%64)=32 from rfl,Nat.shiftLeft_eq];omega
 have h2:((v.toNat:Int)/4294967296)=((v>>>(64-32:UInt64)).toNat:Int):=by
  rw[UInt64.toNat_shiftRight];simp only[show((64-32:UInt64).toNat%64)=32 from rfl,Nat.shiftRight_eq_div_pow];omega
 rw[h1,h2,Vh];rfl
theorem Oa{a b:Int}(h:a=b):Ending.returned (.int .u64 a)= .returned (.int .u64 b):=by rw[h]
theorem Vj(v:UInt64)(w:World):Calls prog 183 #[U v,.int .i64 13] w fun e w'=>e= .returned (U (MB v 13))/\w'=w:=by
 have hb:bits BinOp.and IntKind.u64 13 63=13:=by decide+kernel
 go_enter func183,ntmps183;go_wp2;go_ret;exact⟨Oa (Ua v),rfl⟩
theorem Vk(v:UInt64)(w:World):Calls prog 183 #[U v,.int .i64 32] w fun e w'=>e= .returned (U (MB v 32))/\w'=w:=by
 have hb:bits BinOp.and IntKind.u64 32 63=32:=by decide+kernel
 go_enter func183,ntmps183;go_wp2;go_ret;exact⟨Oa (Ub v),rfl⟩
def Uc(s:UInt64×UInt64):UInt64×UInt64:=(MB (s.1+s.2) 32*0x9e3779b97f4a7c15,MB s.2 13^^^(s.1+s.2))
theorem Sx(x:UInt64):IntKind.u64.wrap ((x.toNat:Int)*11400714819323198485)=((x*0x9e3779b97f4a7c15).toNat:Int):=by
 rw[IntKind.wrap_u64,UInt64.toNat_mul,show(0x9e3779b97f4a7c15:UInt64).toNat=11400714819323198485 from rfl];omega
def Fk:Nat->UInt64×UInt64->UInt64×UInt64
 |0,s=>s
 |n+1,s=>Uc (Fk n s)
theorem Ob(n:Nat)(x y:UInt64)(b:Nat)(w:World)(hn:n<=1000)(hb:Blk w b 193 #[U x,U y]):Calls prog 126 #[.pointer (some ⟨b,0,none⟩),.int .i64 n] w fun e w'=>e= .returned (.tuple #[])/\Blk w' b 193 #[U (Fk n (x,y)).1,U (Fk n (x,y)).2]/\w.grownBy w' (some b)/\w'.heap.size=w.heap.size:=by
 go_enter func126,ntmps126;go_wp2
 go_loopw [5] (fun i wr=>∃k:Nat,k<=n/\i= .int .i64 k/\Blk wr b 193 #[U (Fk k (x,y)).1,U (Fk k (x,y)).2]/\w.grownBy wr (some b)/\wr.heap.size=w.heap.size)
  (fun i _=>n-(intOf i).toNat)
 case atStart=>exact⟨0,Nat.zero_le _,rfl,hb,Al _ _,rfl⟩
 case round=>
  obtain⟨k,hk,rfl,hB,hg,hs⟩:=hrel;by_cases hlt:k<n
  ·have hD5:Fk (k+1) (x,y)=Uc (Fk k (x,y)):=rfl;have Hs:=AA hD5;clear hD5;generalize hm:Fk k (x,y)=s at*;obtain⟨a,c⟩:=s;have Hm:=AA hm;clear hm;have c0:=hB.cell 0;have c1:=hB.cell 1;have f0:=hB.frozen 0;have f1:=hB.frozen 1;simp at c0 c1;go_wp2
   go_region
   simp only[Vi];generalize zN:a+c=s at*;have Hsum:=AA zN;clear zN;have hB2:=(hB.put 0 (U s)).drew;have hg2:=BZ (Bl hg (p:=⟨b,0,none⟩) rfl (U s));have hs2:((wr.setCell ⟨b,0,none⟩ (U s)).drew).heap.size=w.heap.size:=by simpa[World.setCell]using hs
   generalize (World.setCell wr ⟨b,0,none⟩ (U s)).drew=w2 at*;clear hB hg hs c0 c1 f0 f1;have c0:=hB2.cell 0;have c1:=hB2.cell 1;have f0:=hB2.frozen 0;have f1:=hB2.frozen 1;simp at c0 c1;go_wp2;refine wp_region_still_tail 11 (by kernel_rfl) (by kernel_rfl) ?_;simp only[List.take_succ_cons,List.take_zero,List.drop_succ_cons,List.drop_zero]
   iterate 5 still_step
   still_call (Vj _ _)
   iterate 5 still_step
   refine wpStill_nil ?_;change wpList _ _ _ _ _ w2.drew;go_wp2_with fail
   simp only[OY];generalize hx2:MB c 13^^^s=y2 at*;have Hx2:=AA hx2;clear hx2;have hB3:=(hB2.put 1 (U y2)).drew;have hg3:=BZ (Bl hg2 (p:=⟨b,1,none⟩) rfl (U y2));have hs3:((w2.setCell ⟨b,1,none⟩ (U y2)).drew).heap.size=w.heap.size:=by simpa[World.setCell]using hs2
   generalize (w2.setCell ⟨b,1,none⟩ (U y2)).drew=w3 at*;clear hB2 hg2 hs2 c0 c1 f0 f1;have c0:=hB3.cell 0;have c1:=hB3.cell 1;have f0:=hB3.frozen 0;simp at c0 c1;refine(Vk _ _).mono ?_;rintro e w' ⟨rfl,rfl⟩;go_wp2_with fail
   simp only[Sx];go_roundw
   case rel=>
    refine⟨k+1,by omega,by go_num,?_,?_,?_⟩
    ·rw[Hs.out];have:=hB3.put 0 (U (MB s 32*0x9e3779b97f4a7c15));simp only[Uc,Hsum.out,Hx2.out];exact this
    ·exact Bl hg3 rfl _
    ·simpa[World.setCell]using hs3
   case measure=>simp[intOf];omega
  ·obtain rfl:k=n:=by omega
   go_wp2;go_end0;exact⟨rfl,hB,hg,hs⟩
end
end Go.Proofs.YtadllffeoibelaaGreat
