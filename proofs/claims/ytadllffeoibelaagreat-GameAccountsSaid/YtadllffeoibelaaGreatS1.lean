/-
  Parts of the proof. No condition.
-/
import Derived.Test.YtadllffeoibelaaGreatRows
import Derived.JoinedOf
import Derived.Test.YtadllffeoibelaaGreatProg
import Derived.WalkKit
import Derived.WalkLawsBesides
import Derived.WalkSpells
import Derived.Laws.StructEq
import Derived.Laws.BitsAllLaws
import Derived.Laws.BitsLemmas
import Derived.Below
import Derived.Deep.Draws
import Derived.Laws.OwnMore
import Derived.Laws.Rows
import Derived.Deep.AppendLies
import Derived.Deep.MidRow
import Derived.Lib.Hide
import Derived.Maps.AppendAt
import Derived.Deep.RegionHeld3
import Derived.Deep.DrawnRows
import Derived.MapKept
import Derived.BigQuiet
import Derived.Deep.QuietTactic
import Derived.RegionTactic
import Derived.StillTailTactics
import Derived.Maps.RangeWalk
import Derived.LoopN
import Derived.Laws.CopyOwn
import Derived.Test.YtadllffeoibelaaGreatS0
open Go.Proofs.Tryz
namespace Go.Proofs.YtadllffeoibelaaGreat
set_option maxRecDepth 100000
set_option maxHeartbeats 32000000
set_option linter.all false
theorem Ww:prog.mayEnter=true:=by kernel_rfl
theorem Wx:(Rows.gameAgreesRow.lifted==prog.liftsFinal)=true:=by kernel_rfl
theorem Wy:(prog.make==some Rows.gameAgreesRow.make)=true:=by kernel_rfl
theorem X4:laidOutB prog=true:=by kernel_rfl
theorem X5:mapsRowed prog=true:=by kernel_rfl
theorem Wz:prog.stopsHeard=true:=by kernel_rfl
theorem CI{a b:Bool}(ha:a=true)(hb:b=true):(a&&b)=true:=by rw[ha,hb];rfl
section
open Go.RowKit
abbrev B(b:UInt8):Value:=.int .u8 (b.toNat:Int)
abbrev I(n:Int):Value:=.int .i64 n
abbrev U(x:UInt64):Value:=.int .u64 (x.toNat:Int)
structure Nm where
 b0:UInt8
 b1:UInt8
 b2:UInt8
 b3:UInt8
 b4:UInt8
 b5:UInt8
 b6:UInt8
 b7:UInt8
 deriving DecidableEq
namespace Nm
def bytes(n:Nm):List UInt8:=[n.b0,n.b1,n.b2,n.b3,n.b4,n.b5,n.b6,n.b7]
abbrev val(n:Nm):Value:=.agg #[B n.b0,B n.b1,B n.b2,B n.b3,B n.b4,B n.b5,B n.b6,B n.b7]
abbrev zero:Nm:=⟨0,0,0,0,0,0,0,0⟩
def ofList(l:List UInt8):Nm:=⟨l.getD 0 0,l.getD 1 0,l.getD 2 0,l.getD 3 0,l.getD 4 0,l.getD 5 0,l.getD 6 0,l.getD 7 0⟩
end Nm
structure Vt where
 kind:Int
 slot:Int
 round:Int
 choice:Int
 signer:Int
 support:Int
 parent:Nm
 value:Nm
 deriving DecidableEq
namespace Vt
abbrev cells(v:Vt):Array Value:=#[I v.kind,I v.slot,I v.round,I v.choice,I v.signer,I v.support,
 B v.parent.b0,B v.parent.b1,B v.parent.b2,B v.parent.b3,B v.parent.b4,B v.parent.b5,B v.parent.b6,B v.parent.b7,
 B v.value.b0,B v.value.b1,B v.value.b2,B v.value.b3,B v.value.b4,B v.value.b5,B v.value.b6,B v.value.b7]
abbrev val(v:Vt):Value:=.agg v.cells
end Vt
theorem Si(x:UInt64):x.toNat<18446744073709551616:=x.toNat_lt
theorem GY(x:UInt64):(BitVec.ofInt 64 (x.toNat:Int))=x.toBitVec:=by
 rw[BitVec.ofInt_natCast];simp[<-UInt64.toNat_toBitVec]
theorem QR(x y:UInt64):bits .xor .u64 (x.toNat:Int) (y.toNat:Int)=((x^^^y).toNat:Int):=by
 show IntKind.u64.wrap ((BitVec.ofInt 64 (x.toNat:Int)^^^BitVec.ofInt 64 (y.toNat:Int)).toNat:Int)=_;rw[GY,GY,<-UInt64.toBitVec_xor,UInt64.toNat_toBitVec,IntKind.wrap_u64];have:=Si (x^^^y);omega
theorem X6(x y:UInt64):bits .or .u64 (x.toNat:Int) (y.toNat:Int)=((x|||y).toNat:Int):=by
 show IntKind.u64.wrap ((BitVec.ofInt 64 (x.toNat:Int)|||BitVec.ofInt 64 (y.toNat:Int)).toNat:Int)=_;rw[GY,GY,<-UInt64.toBitVec_or,UInt64.toNat_toBitVec,IntKind.wrap_u64];have:=Si (x|||y);omega
theorem X7(x y:UInt64):IntKind.u64.wrap ((x.toNat:Int)+(y.toNat:Int))=((x+y).toNat:Int):=by
 rw[IntKind.wrap_u64,UInt64.toNat_add];omega
def Blk(w:World)(g:Nat)(t:TypeId)(cs:Array Value):Prop:=w.heap[g]? =some (.cells cs t (0,0))
section
variable {w w' w1:World}{g:Nat}{t:TypeId}{cs:Array Value}{B:Nat}
theorem Blk.lt(h:Blk w g t cs):g<w.heap.size:=lt_of_block h
theorem Blk.cell(h:Blk w g t cs)(i:Nat):w.cell? ⟨g,i,none⟩=cs[i]?:=cell_of_row w g i cs t (0,0) h
theorem Blk.frozen(h:Blk w g t cs)(i:Nat):w.frozen? ⟨g,i,none⟩=false:=frozen_of_row w g i cs t h
theorem Blk.new(w:World)(t:TypeId)(cs:Array Value):Blk (w.alloc (.cells cs t)) w.heap.size t cs:=heap_alloc_new w _
theorem Blk.drew(h:Blk w g t cs):Blk w.drew g t cs:=h
theorem Blk.alloc(h:Blk w g t cs)(o:Obj):Blk (w.alloc o) g t cs:=(Below.heap_alloc w o g h.lt).trans h
theorem Blk.put(h:Blk w g t cs)(i:Nat)(u:Value):Blk (w.setCell ⟨g,i,none⟩ u) g t (cs.setIfInBounds i u):=by
 unfold Blk at h ⊢;simp[World.setCell,Array.getElem?_modify,h]
theorem Blk.far(h:Blk w g t cs){p:Addr}(hp:g≠p.block)(u:Value):Blk (w.setCell p u) g t cs:=(Below.heap_setCell w p u g hp).trans h
theorem Blk.below(h:Blk w g t cs)(hb:Below B w w')(hg:g<B):Blk w' g t cs:=(hb.block g hg).trans h
theorem Blk.kept{row:Option Nat}(h:Blk w g t cs)(hb:w.grownBy w' row)(hg:some g≠row):Blk w' g t cs:=(hb.block g h.lt hg).trans h
end
theorem Am(w:World)(g:Nat):w.grownBy w (some g):=⟨rfl,rfl,rfl,AB _,fun _ _ _=>rfl⟩
theorem Bd{a w:World}{row:Option Nat}(h:a.grownBy w row):a.grownBy w.drew row:=⟨h.os,h.tape,h.output,h.size,h.block⟩
theorem Bt{a w:World}{row:Option Nat}(h:a.grownBy w row)(o:Obj):a.grownBy (w.alloc o) row:=
 ⟨h.os,h.tape,h.output,AG h.size (by simp),fun i hi hne=>(Below.heap_alloc w o i (Nat.lt_of_lt_of_le hi h.size)).trans (h.block i hi hne)⟩
theorem Bl{a w:World}{g:Nat}(h:a.grownBy w (some g)){p:Addr}(hp:p.block=g)(u:Value):a.grownBy (w.setCell p u) (some g):=
 ⟨h.os,h.tape,h.output,by simpa[World.setCell]using h.size,fun i hi hne=>(Below.heap_setCell w p u i (by rintro rfl;exact hne (by rw[hp]))).trans (h.block i hi hne)⟩
theorem BL{B:Nat}{a w:World}(h:Below B a w)(n:Nat):Below B a (w.drewN n):=⟨h.os,h.tape,h.output,h.size,h.block⟩
def Rd(w:World)(B:Nat)(A:Option Addr)(xs:List Value):Prop:=
 xs=[]∨∃b o,A=some ⟨b,o,none⟩/\b<B/\∀j u,xs[j]? =some u->w.cell? ⟨b,o+j,none⟩=some u
section
variable {w w':World}{B B':Nat}{A:Option Addr}{xs:List Value}
theorem Rd.nil:Rd w B A []:=.inl rfl
theorem Rd.mk{b o:Nat}(hb:b<B)(h:∀j u,xs[j]? =some u->w.cell? ⟨b,o+j,none⟩=some u):Rd w B (some ⟨b,o,none⟩) xs:=.inr ⟨b,o,rfl,hb,h⟩
theorem Rd.keep(h:Rd w B A xs)(hk:∀p:Addr,p.block<B->w'.cell? p=w.cell? p):Rd w' B A xs:=by
 rcases h with h|⟨b,o,rfl,hb,hc⟩
 ·exact .inl h
 ·exact .inr ⟨b,o,rfl,hb,fun j u hu=>(hk _ hb).trans (hc j u hu)⟩
theorem Rd.more(h:Rd w B A xs)(hB:B<=B'):Rd w B' A xs:=by
 rcases h with h|⟨b,o,rfl,hb,hc⟩
 ·exact .inl h
 ·exact .inr ⟨b,o,rfl,by omega,hc⟩
theorem Rd.below(h:Rd w B A xs)(hb:Below B w w'):Rd w' B A xs:=h.keep fun _ hp=>hb.cell hp
theorem Rd.drew(h:Rd w B A xs):Rd w.drew B A xs:=h
theorem Rd.alloc(h:Rd w B A xs)(hB:B<=w.heap.size)(o:Obj):Rd (w.alloc o) B A xs:=h.keep fun p hp=>World.cell?_alloc_lt w o p (by omega)
theorem Rd.take(h:Rd w B A xs)(k:Nat):Rd w B A (xs.take k):=by
 rcases h with rfl|⟨b,o,rfl,hb,hc⟩
 ·exact .inl (by simp)
 ·exact .inr ⟨b,o,rfl,hb,fun j u hu=>hc j u (by rw[BP]at hu;split at hu <;> simp_all)⟩
theorem Rd.cells(h:Rd w B A xs)(hx:xs≠[]):∃b o,A=some ⟨b,o,none⟩/\b<B/\∀j u,xs[j]? =some u->w.cell? ⟨b,o+j,none⟩=some u:=by
 rcases h with h|h
 ·exact absurd h hx
 ·exact h
theorem Rd.of_own{base e size n c:Nat}(h:w.ownsRow base e size (.slice A n c) n xs):Rd w w.heap.size A xs:=by
 rcases h.2 with⟨hv,hn⟩|⟨g,cap,cur,hv,_,hh,_⟩
 ·exact .inl (AV (by rw[h.1,hn,Nat.zero_mul]))
 ·injection hv with hA
  subst hA;refine .inr ⟨g,0,rfl,lt_of_block hh,fun j u hu=>?_⟩;have:=h.cells (g:=g) rfl j u hu;rwa[Addr.add_mid]at this
theorem Rd.of_blk{g t:Nat}{cs:Array Value}(h:Blk w g t cs)(o n:Nat):Rd w w.heap.size (some ⟨g,o,none⟩) ((cs.toList.drop o).take n):=
 .inr ⟨g,o,rfl,h.lt,fun j u hu=>by
  rw[h.cell];rw[BP]at hu;split at hu
  ·rw[List.getElem?_drop]at hu;simpa using hu
  ·simp at hu⟩
end
theorem Rd.one(w:World)(x:Value)(t:TypeId):Rd (w.alloc (.cells #[x] t)) (w.heap.size+1) (some ⟨w.heap.size,0,none⟩) [x]:=by
 have:=Rd.of_blk (Blk.new w t #[x]) 0 1;simpa using this
theorem Av{w:World}{base e size n:Nat}{v:Value}{xs:List Value}(h:w.ownsRow base e size v n xs):∃A c,v= .slice A n c:=by
 rcases h.2 with⟨rfl,rfl⟩|⟨g,cap,cur,rfl,_⟩
 ·exact⟨_,_,rfl⟩
 ·exact⟨_,_,rfl⟩
theorem BJ{w w1 w2:World}{e size n:Nat}{v:Value}{xs:List Value}(hb:ZN w w1)(h:w1.ownsRow w.heap.size e size v n xs)(hg:w1.grownBy w2 v.ownBlock):ZN w w2:=
 hb.grown hg hb.size fun k hk=>(h.lt k hk).1
theorem CJ{w:World}{base e size n g t:Nat}{v:Value}{xs:List Value}{cs:Array Value}(h:w.ownsRow base e size v n xs)(hg:Blk w g t cs)(hne:e≠t):some g≠v.ownBlock:=by
 rcases h.2 with⟨rfl,_⟩|⟨g',cap,cur,rfl,_,hh,_⟩
 ·simp[Value.ownBlock]
 ·intro he;have:g=g':=by simpa[Value.ownBlock]using he
  subst this;unfold Blk at hg;rw[hg]at hh;injection hh with hh
  injection hh with _ ht
  exact hne ht.symm
theorem QS{P:Program}(w:World)(base:Nat)(t ty e:TypeId)(i:TypeInfo)(z:Value)(size bytes:Nat)(ht:P.underlying t=some (.slice e))(hi:P.info? e=some i)(hz:i.zero=some z)(hAp:i.size=size)(hby:i.bytes=bytes)(hzs:z.cells.size=size)(hsz:0<size)(v:Value)(n:Nat)(xs:List Value)(xA:w.ownsRow base e size v n xs)(B:Nat)(A:Option Addr)(m c:Nat)(news:List Value)(hl:news.length=m*size)(hr:Rd w B A news)(h1:∀u∈news,u.oneCell'=true)(zB:(n+m)*bytes<=140737488355328)(h63:n+m<=maxLen)(yT:base<=w.heap.size):∃v' w',(Builtin.append_ #[t,t] ty #[v,.slice A m c]).run P w= .ok v' w'/\w'.ownsRow base e size v' (n+m) (xs++news)/\w.grownBy w' v.ownBlock/\(v'.ownBlock=v.ownBlock∨v'.ownBlock=some w.heap.size):=by
 rcases A with _|ad
 ·have hn:news=[]:=by
   rcases hr with h|⟨b,o,h,_⟩
   ·exact h
   ·cases h
  subst hn;have hm:m=0:=by
   rcases Nat.eq_zero_or_pos m with h0|h0
   ·exact h0
   ·have:=Nat.mul_pos h0 hsz;simp at hl;omega
  subst hm;refine⟨v,w,?_,by simpa using xA,⟨rfl,rfl,rfl,AB _,fun _ _ _=>rfl⟩,.inl rfl⟩;rcases xA.2 with⟨rfl,rfl⟩|⟨g,cap,cur,rfl,_,_,hnc,_⟩
  ·simp[Builtin.append_,run_underlying ht,sizeOf,typeInfo,hi,Builtin.lenOf,Builtin.firstCells]
  ·simp[Builtin.append_,run_underlying ht,sizeOf,typeInfo,hi,Builtin.lenOf,Builtin.firstCells,hnc,storeCells]
 ·have hEo:∀j u,news[j]? =some u->w.cell? (ad.add j)=some u:=by
   intro j u hu;rcases hr with h|⟨b,o,h,_,hc⟩
   ·subst h;simp at hu
   ·injection h with h;subst h;rw[Addr.add_mid];exact hc j u hu
  obtain⟨v',w',xN,h2,h3,_,h5⟩:=run_append_own_at (P:=P) w base t ty e i z size bytes ht hi hz hAp hby hzs hsz v n xs xA ad m c news hl hEo h1 h63 zB yT;exact⟨v',w',xN,h2,h3,h5⟩
theorem Ar{P:Program}{w:World}{ops:Array Oper}{rest:List Oper}{o:Oper}{a:Act}{Q:Exit->Act->World->Prop}(hgd:o.guard=none)(s x:Operand)(t:TypeId)(ho:o.op= .call {callee:=.builtin .append,args:=#[s,x],argTypes:=#[t,t]})
  (base:Nat) (e:TypeId) (z:Value) (size bytes:Nat) (ht:P.underlying t=some (.slice e)) (hi:(P.info? e).map (fun i=>(i.zero,i.size,i.bytes))=some (some z,size,bytes)) (hzs:z.cells.size=size) (hsz:0<size)
  (v:Value) (n:Nat) (xs:List Value) (hs:a.eval s=v) (xA:w.ownsRow base e size v n xs)
  (B:Nat) (A:Option Addr) (m c:Nat) (news:List Value) (hx:a.eval x= .slice A m c) (hl:news.length=m*size) (hr:Rd w B A news) (h1:∀u∈news,u.oneCell'=true)
  (zB:(n+m)*bytes<=140737488355328) (h63:n+m<=maxLen) (yT:base<=w.heap.size)
  (h:∀v' w',w'.ownsRow base e size v' (n+m) (xs++news)->w.grownBy w' v.ownBlock->(v'.ownBlock=v.ownBlock∨v'.ownBlock=some w.heap.size)->wpList P ops Q rest (a.put o.dst v') w'):
  wpList P ops Q (o::rest) a w:=by
 obtain⟨i,hi',hz,hAp,hby⟩:=info_parts hi;refine wpList_plain hgd fun K hK=>?_
 obtain⟨v',w',hr,h2,h3,h5⟩:=QS (P:=P) w base t o.type e i z size bytes ht hi' hz hAp hby hzs hsz v n xs xA B A m c news hl hr h1 zB h63 yT;unfold Oper.wp execOp;simp only[ho,resolve,invoke,builtin,Sem.run_bind,Sem.run_pure,Result.andThen_ok,List.map_toArray,List.map_cons,List.map_nil,hs,hx,hr];exact hK _ _ (h v' w' h2 h3 h5)
theorem W4{P:Program}{w:World}{o:Oper}{a:Act}{K:Act->World->Prop}{Q:Exit->Act->World->Prop}(s x:Operand)(t:TypeId)(ho:o.op= .call {callee:=.builtin .append,args:=#[s,x],argTypes:=#[t,t]})
  (base:Nat) (e:TypeId) (z:Value) (size bytes:Nat) (ht:P.underlying t=some (.slice e)) (hi:(P.info? e).map (fun i=>(i.zero,i.size,i.bytes))=some (some z,size,bytes)) (hzs:z.cells.size=size) (hsz:0<size)
  (v:Value) (n:Nat) (xs:List Value) (hs:a.eval s=v) (xA:w.ownsRow base e size v n xs)
  (B:Nat) (A:Option Addr) (m c:Nat) (news:List Value) (hx:a.eval x= .slice A m c) (hl:news.length=m*size) (hr:Rd w B A news) (h1:∀u∈news,u.oneCell'=true)
  (zB:(n+m)*bytes<=140737488355328) (h63:n+m<=maxLen) (yT:base<=w.heap.size)
  (h:∀v' w',w'.ownsRow base e size v' (n+m) (xs++news)->w.grownBy w' v.ownBlock->(v'.ownBlock=v.ownBlock∨v'.ownBlock=some w.heap.size)->K (a.put o.dst v') w'):
  o.wp P a w K Q:=by
 obtain⟨i,hi',hz,hAp,hby⟩:=info_parts hi;obtain⟨v',w',hr,h2,h3,h5⟩:=QS (P:=P) w base t o.type e i z size bytes ht hi' hz hAp hby hzs hsz v n xs xA B A m c news hl hr h1 zB h63 yT;unfold Oper.wp execOp;simp only[ho,resolve,invoke,builtin,Sem.run_bind,Sem.run_pure,Result.andThen_ok,List.map_toArray,List.map_cons,List.map_nil,hs,hx,hr];exact h v' w' h2 h3 h5
theorem BE{w:World}{base base' e size n:Nat}{v:Value}{xs:List Value}(h:w.ownsRow base e size v n xs)(hb:base'<=base):w.ownsRow base' e size v n xs:=by
 refine⟨h.1,?_⟩;rcases h.2 with h|⟨g,cap,cur,hv,hg,r⟩
 ·exact .inl h
 ·exact .inr ⟨g,cap,cur,hv,by omega,r⟩
theorem Ay{w w':World}{base B e size n:Nat}{v:Value}{xs:List Value}(h:w.ownsRow base e size v n xs)(hb:Below B w w')(hB:w.heap.size<=B):w'.ownsRow base e size v n xs:=by
 refine⟨h.1,?_⟩;rcases h.2 with h|⟨g,cap,cur,hv,hg,hh,r⟩
 ·exact .inl h
 ·exact .inr ⟨g,cap,cur,hv,hg,(hb.block g (by have:=lt_of_block hh;omega)).trans hh,r⟩
theorem C1(g:Nat)(t:TypeId):∀(vs:List Value) (o:Nat) (w:World) (cur:Array Value),Blk w g t cur->
  (∃cur',Blk (w.setCells g o vs) g t cur'/\cur'.size=cur.size)/\w.grownBy (w.setCells g o vs) (some g)/\(w.setCells g o vs).heap.size=w.heap.size
 |[],_,w,cur,h=>⟨⟨cur,h,rfl⟩,Am _ _,rfl⟩
 |v::r,o,w,cur,h=>by
  rw[World.setCells];obtain⟨⟨cur',h1,h2⟩,h3,h4⟩:=C1 g t r (o+1) (w.setCell ⟨g,o,none⟩ v) _ (h.put o v);refine⟨⟨cur',h1,by simpa using h2⟩,?_,by rw[h4];simp[World.setCell]⟩;have h5:w.grownBy (w.setCell ⟨g,o,none⟩ v) (some g):=Bl (Am w g) rfl v;exact h5.trans h3
theorem AI{P:Program}{ops:Array Oper}{rest:List Oper}{op:Oper}{a:Act}{w:World}{Q:Exit->Act->World->Prop}(hgd:op.guard=none)(ty:TypeId)(x y:Operand)(ho:op.op= .store ty x y)(g:Nat)(cs:Array Value)(hx:a.eval x= .pointer (some ⟨g,0,none⟩))(hy:a.eval y= .agg cs)(t:TypeId)(old:Array Value)(hB:Blk w g t old)(hsz:old.size=cs.size)(hi:(P.info? ty).map (·.size)=some cs.size)(h1:∀u∈cs.toList,u.oneCell'=true)(h:∀w',Blk w' g t cs->w.grownBy w' (some g)->w'.heap.size=w.heap.size->wpList P ops Q rest (a.put op.dst undef) w'):wpList P ops Q (op::rest) a w:=by
 have hth:w.there g 0 cs.size:=fun j hj=>⟨by
  rw[Nat.zero_add,hB.cell];rw[Array.getElem?_eq_getElem (by omega)];rfl,hB.frozen _⟩
 refine wpList_store_mid hgd ty x y ho g 0 cs hx hy hth hi (Array.all_eq_true_iff_forall_mem.2 fun v hv=>h1 v (by simpa using hv)) ?_;obtain⟨⟨cur',h2,h3⟩,h4,h5⟩:=C1 g t cs.toList 0 w old hB;have e:cur'=cs:=by
  apply Array.ext (by omega);intro i hi1 hi2;have:=World.rangeAt_setCells_same w g 0 cs.toList (by simpa using hth) i cs[i] (by simp[hi2]);rw[Nat.zero_add,h2.cell,Array.getElem?_eq_getElem hi1]at this;exact Option.some.inj this
 subst e;exact h _ h2 h4 h5
theorem B4{α:Type}(f:α->List Value)(m:Nat):∀(l:List α) (_:∀x∈l,(f x).length=m) (k j:Nat) (x:α),l[k]? =some x->j<m->(l.flatMap f)[k*m+j]? =(f x)[j]?
 |[],_,k,j,x,h,_=>by simp at h
 |y::r,hm,0,j,x,h,hj=>by
  simp at h;subst h;rw[List.flatMap_cons,Nat.zero_mul,Nat.zero_add,List.getElem?_append_left (by rw[hm y (by simp)];exact hj)]
 |y::r,hm,k+1,j,x,h,hj=>by
  have hy:(f y).length=m:=hm y (by simp);rw[List.flatMap_cons,List.getElem?_append_right (by rw[hy,Nat.succ_mul];omega),hy,show(k+1)*m+j-m=k*m+j from by rw[Nat.succ_mul];omega];exact B4 f m r (fun z hz=>hm z (by simp[hz])) k j x (by simpa using h) hj
theorem AY{α:Type}(f:α->List Value)(m:Nat):∀(l:List α) (_:∀x∈l,(f x).length=m),(l.flatMap f).length=l.length*m
 |[],_=>by simp
 |y::r,hm=>by
  rw[List.flatMap_cons,AF,AY f m r (fun z hz=>hm z (by simp[hz])),hm y (by simp),Ah,Nat.succ_mul,Nat.add_comm]
structure Es {κ:Type}[DecidableEq κ](P:Program)(kt:TypeId)(enc:κ->Value):Prop where
 desc:∃d,P.underlying kt=some d/\∀k k',Instr.sameNow d (enc k) (enc k')=none
 check:∀b k w,(Instr.checkKey b 10000 kt (enc k)).run P w= .ok () w
 eq:∀k k' w,(Op.equal kt (enc k) (enc k')).run P w= .ok (decide (k=k')) w
 bits:∀k,Instr.sameBits 10000 (enc k) (enc k)=true
section
variable {κ:Type}
def BQ[DecidableEq κ](k:κ):List (κ×Value)->Option Value
 |[]=>none
 |p::r=>if k=p.1 then some p.2 else BQ k r
def CP[DecidableEq κ](k:κ)(v:Value):List (κ×Value)->List (κ×Value)
 |[]=>[(k,v)]
 |p::r=>if k=p.1 then(k,v)::r else p::CP k v r
theorem Cn[DecidableEq κ](k k':κ)(v:Value):∀l,BQ k' (CP k v l)=if k'=k then some v else BQ k' l
 |[]=>rfl
 |p::r=>by
  rw[CP];split
  ·rename_i h
   rw[BQ,BQ];by_cases h':k'=k
   ·rw[if_pos h',if_pos h']
   ·rw[if_neg h',if_neg h',if_neg (by rw[<-h];exact h')]
  ·rename_i h
   rw[BQ,BQ,Cn k k' v r];by_cases h':k'=p.1
   ·rw[if_pos h',if_pos h',if_neg (by rw[h'];exact fun e=>h e.symm)]
   ·rw[if_neg h',if_neg h']
theorem NM[DecidableEq κ](k:κ)(v:Value):∀l,(CP k v l).length<=l.length+1
 |[]=>by simp[CP]
 |p::r=>by
  rw[CP];split
  ·simp
  ·have:=NM k v r;simp;omega
def By(enc:κ->Value)(w:World)(m:Nat)(l:List (κ×Value)):Prop:=
 ∃es clock,w.heap[m]? =some (.map es clock)/\es.toList.map (fun e=>(e.key,e.val))=l.map (fun p=>(enc p.1,p.2))
variable {enc:κ->Value}{w w':World}{m:Nat}{l:List (κ×Value)}{P:Program}{kt:TypeId}
theorem By.lt(h:By enc w m l):m<w.heap.size:=by
 obtain⟨es,c,h1,_⟩:=h;exact(Aa.1 h1).1
theorem By.new(enc:κ->Value)(w:World):By enc (w.alloc (.map #[] 0)) w.heap.size []:=⟨#[],0,heap_alloc_new w _,rfl⟩
theorem By.alloc(h:By enc w m l)(o:Obj):By enc (w.alloc o) m l:=by
 have hl:=h.lt;obtain⟨es,c,h1,h2⟩:=h;exact⟨es,c,(Below.heap_alloc w o m hl).trans h1,h2⟩
theorem By.below{B':Nat}(h:By enc w m l)(hb:Below B' w w')(hm:m<B'):By enc w' m l:=by
 obtain⟨es,c,h1,h2⟩:=h;exact⟨es,c,(hb.block m hm).trans h1,h2⟩
theorem By.kept{row:Option Nat}(h:By enc w m l)(hg:w.grownBy w' row)(hm:some m≠row):By enc w' m l:=by
 have hl:=h.lt;obtain⟨es,c,h1,h2⟩:=h;exact⟨es,c,(hg.block m hl hm).trans h1,h2⟩
variable [DecidableEq κ]
theorem EY(K:Es P kt enc)(k:κ)(w:World):∀(es:List MapEntry) (l:List (κ×Value)) (i:Nat),es.map (fun e=>(e.key,e.val))=l.map (fun p=>(enc p.1,p.2))->
  (BQ k l=none/\(∀v,CP k v l=l++[(k,v)])/\(Instr.findAsking kt (enc k) es i).run P w= .ok none w)∨
  ∃j v,BQ k l=some v/\(∃e,es[j]? =some e/\e.key=enc k/\e.val=v)/\(∀u,CP k u l=l.set j (k,u))/\j<l.length/\(Instr.findAsking kt (enc k) es i).run P w= .ok (some (i+j,v)) w
 |[],l,i,h=>by
  have:l=[]:=by simpa using h.symm
  subst this;exact .inl ⟨rfl,fun v=>rfl,rfl⟩
 |e::es,[],i,h=>by simp at h
 |e::es,p::l,i,h=>by
  simp only[List.map_cons,List.cons.injEq,Prod.mk.injEq]at h;obtain⟨⟨h1,h2⟩,h3⟩:=h;by_cases hk:k=p.1
  ·refine .inr ⟨0,p.2,by rw[BQ,if_pos hk],⟨e,rfl,by rw[h1,hk],h2⟩,fun u=>by rw[CP,if_pos hk];rfl,by simp,?_⟩;rw[Instr.findAsking,Sem.run_bind,h1,K.eq,Result.andThen_ok,decide_eq_true hk,if_pos rfl,h2];rfl
  ·rcases EY K k w es l (i+1) h3 with⟨a1,a2,a3⟩|⟨j,v,b1,⟨e',b2,b3,b4⟩,b5,b6,b7⟩
   ·refine .inl ⟨by rw[BQ,if_neg hk];exact a1,fun v=>by rw[CP,if_neg hk,a2];rfl,?_⟩;rw[Instr.findAsking,Sem.run_bind,h1,K.eq,Result.andThen_ok,decide_eq_false hk,if_neg (by simp)];exact a3
   ·refine .inr ⟨j+1,v,by rw[BQ,if_neg hk];exact b1,⟨e',by simpa using b2,b3,b4⟩,fun u=>by rw[CP,if_neg hk,b5];rfl,by simp;omega,?_⟩;rw[Instr.findAsking,Sem.run_bind,h1,K.eq,Result.andThen_ok,decide_eq_false hk,if_neg (by simp)];rw[b7,show i+1+j=i+(j+1)from by omega]
theorem Et(K:Es P kt enc)(k:κ)(w:World)(es:List MapEntry)(l:List (κ×Value))(h:es.map (fun e=>(e.key,e.val))=l.map (fun p=>(enc p.1,p.2))):(Instr.findKey kt (enc k) es).run P w=(Instr.findAsking kt (enc k) es 0).run P w:=by
 obtain⟨d,hd,hn⟩:=K.desc;rw[Instr.findKey,Sem.run_bind,run_underlying hd,Result.andThen_ok];rcases es with _|⟨e,es⟩
 ·rfl
 ·rcases l with _|⟨p,l⟩
  ·simp at h
  ·simp only[List.map_cons,List.cons.injEq,Prod.mk.injEq]at h;rw[Instr.findNow,h.1.1,hn]
theorem By.look(h:By enc w m l)(K:Es P kt enc){t e:TypeId}(ht:P.underlying t=some (.map kt e))(z:Value)(hz:(zeroValue e).run P w= .ok z w)(k:κ)(ok:Bool):(Instr.lookup t (.map (some m)) (enc k) ok).run P w= .ok (if ok then .tuple #[(BQ k l).getD z,.bool (BQ k l).isSome]else(BQ k l).getD z) w:=by
 obtain⟨es,c,h1,h2⟩:=h;unfold Instr.lookup;simp only[Sem.run_bind,run_underlying ht,Result.andThen_ok,MapKept.run_getObj_map h1,K.check,Sem.run_pure,Et K k w es.toList l h2];rcases EY K k w es.toList l 0 h2 with⟨a1,_,a3⟩|⟨j,v,b1,_,_,_,b7⟩
 ·rw[a3,a1];simp only[Result.andThen_ok,Sem.run_bind,hz,Sem.run_pure];cases ok <;> rfl
 ·rw[b7,b1];simp only[Result.andThen_ok];cases ok <;> rfl
theorem By.store(h:By enc w m l)(K:Es P kt enc){t e:TypeId}(ht:P.underlying t=some (.map kt e))(k:κ)(v:Value):∃w',(Instr.mapUpdate t (.map (some m)) (enc k) v).run P w= .ok () w'/\By enc w' m (CP k v l)/\w.grownBy w' (some m)/\w'.heap.size=w.heap.size:=by
 obtain⟨es,c,h1,h2⟩:=h;have hlt:=(Aa.1 h1).1;have put:∀o:Obj,({w with heap:=w.heap.setIfInBounds m o}:World).heap[m]? =some o:=fun o=>by simp[hlt]
 have gr:∀o:Obj,w.grownBy {w with heap:=w.heap.setIfInBounds m o} (some m):=fun o=>⟨rfl,rfl,rfl,by simp,fun i hi hne=>by
  have:m≠i:=fun e=>hne (by rw[e])
  simp[this]⟩
 unfold Instr.mapUpdate;simp only[Sem.run_bind,run_underlying ht,Result.andThen_ok,MapKept.run_getObj_map h1,K.check,Et K k w es.toList l h2];rcases EY K k w es.toList l 0 h2 with⟨_,a2,a3⟩|⟨j,u,_,⟨e',b2,b3,b4⟩,b5,b6,b7⟩
 ·rw[a3];simp only[Result.andThen_ok];refine⟨_,MapKept.run_setObj_map _ h1,⟨_,_,put _,?_⟩,gr _,by simp⟩;rw[a2];simp[h2]
 ·rw[b7];simp only[Result.andThen_ok,Sem.run_bind,Nat.zero_add];have he:es[j]? =some e':=by rw[<-Array.getElem?_toList];exact b2
  have hs:(Instr.keyThatStays (((es[j]?).map (·.key)).getD (enc k)) (enc k)).run P w= .ok (enc k) w:=by
   rw[he];unfold Instr.keyThatStays;simp only[Option.map_some,Option.getD_some,b3,K.bits,if_true];rfl
  rw[hs];simp only[Result.andThen_ok];refine⟨_,MapKept.run_setObj_map _ h1,⟨_,_,put _,?_⟩,gr _,by simp⟩;rw[b5];apply List.ext_getElem?;intro i;have h3:=congrArg (fun x=>x[i]?) h2;simp only[AQ,Array.getElem?_toList]at h3 ⊢;rw[Array.getElem?_modify,List.getElem?_set];by_cases hij:j=i
  ·subst hij;simp[he,b6]
  ·simp[hij,h3]
end
theorem u8x(a b:UInt8):((a.toNat:Int)=(b.toNat:Int))=(a=b):=
 propext ⟨fun h=>UInt8.toNat_inj.1 (by omega),fun h=>by rw[h]⟩
theorem EZ{p q r:Prop}[Decidable p][Decidable q][Decidable r](w:World)(h:(p/\q)=r):(if p then Result.ok (decide q) w else Result.ok false w)=Result.ok (decide r) w:=by
 subst h;by_cases hp:p <;> simp[hp]
theorem Ea{p:Prop}[Decidable p](w:World):(if p then Result.ok true w else Result.ok false w)=Result.ok (decide p) w:=by
 by_cases hp:p <;> simp[hp]
theorem ED(a b:Nm)(w:World)(d:Nat):(Op.equalIn (d+2) 24 a.val b.val).run prog w= .ok (decide (a=b)) w:=by
 have u3:=underlying5;have a3:=isAgg5;have z3:=sizeOf5;rw[Op.equalIn];simp only[Sem.run_bind,run_underlying underlying24,Result.andThen_ok];simp only[Std.Legacy.Range.forIn_eq_forIn_range',Std.Legacy.Range.size,Nat.sub_zero,Nat.add_sub_cancel,Nat.div_one,List.range'_succ,List.range'_zero,List.forIn_cons,List.forIn_nil];go_simp;simp only[u8x];rw[Ea]
 iterate 6 rw[EZ w rfl]
 refine EZ w ?_;cases a;cases b;simp
theorem U1(a b:Vt)(w:World):(Op.equalIn 10000 46 a.val b.val).run prog w= .ok (decide (a=b)) w:=by
 have u3:=underlying3;have a3:=isAgg3;have z3:=sizeOf3;have u4:=underlying22;have a4:=isAgg22;have z4:=sizeOf22;have a5:=isAgg24;have z5:=sizeOf24;have hS:prog.underlying 46=some (.struct (prog.fieldsOf 46)):=by kernel_rfl
 rw[show(10000:Nat)=9999+1 from rfl,run_equalIn_agg w 9999 46 _ _ hS (by kernel_rfl)];have e6:=fun w=>ED a.parent b.parent w 9997
 have e7:=fun w=>ED a.value b.value w 9997
 simp only[Program.fieldsOf,underlying46];go_simp;rw[Ea]
 iterate 6 rw[EZ w rfl]
 refine EZ w ?_;cases a;cases b;simp
theorem Jb(a:Nm)(w:World):(Op.equalIn 10000 24 a.val (.agg #[.int .u8 0,.int .u8 0,.int .u8 0,.int .u8 0,.int .u8 0,.int .u8 0,.int .u8 0,.int .u8 0])).run prog w= .ok (decide (a=Nm.zero)) w:=ED a Nm.zero w 9998
def btw(n lo hi:Int):Bool:=decide (lo<=n)&&decide (n<=hi)
theorem Bv(n lo hi:Int)(w:World):Calls prog 84 #[.int .i64 n,.int .i64 lo,.int .i64 hi] w fun e w'=>e= .returned (.bool (btw n lo hi))/\w'=w:=by
 go_enter func84,ntmps84;go_wp2
 ·go_ret;have h:lo<=n:=by assumption
  exact⟨by simp[btw,h],rfl⟩
 ·go_ret;have h:n<lo:=by assumption
  have h':¬lo<=n:=by omega
  exact⟨by simp[btw,h'],rfl⟩
theorem RR(x c:BitVec 64):x&&& ~~~c=0#64↔x=x&&& c:=by
 constructor
 ·intro h;apply BitVec.eq_of_getLsbD_eq;intro i hi;have:=congrArg (fun y=>BitVec.getLsbD y i) h;simp only[BitVec.getLsbD_and,BitVec.getLsbD_not,hi,decide_true,Bool.true_and,BitVec.getLsbD_zero]at this;rw[BitVec.getLsbD_and];revert this;cases x.getLsbD i <;> cases c.getLsbD i <;> simp
 ·intro h;rw[h];apply BitVec.eq_of_getLsbD_eq;intro i hi;simp[hi]
theorem Ck(s:Int)(h1: -9223372036854775808<=s)(h2:s<=9223372036854775807):(bits .andNot .i64 s 1023=0)↔(0<=s/\s<=1023):=by
 show IntKind.i64.wrap ((BitVec.ofInt 64 s&&& ~~~ BitVec.ofInt 64 1023).toNat:Int)=0↔_;have hx:((BitVec.ofInt 64 s).toNat:Int)=s%18446744073709551616:=by
  rw[BitVec.toNat_ofInt];omega
 have hw:∀y:BitVec 64,IntKind.i64.wrap (y.toNat:Int)=0↔y=0#64:=by
  intro y;have:=y.isLt;rw[IntKind.wrap_i64];constructor
  ·intro h;apply BitVec.eq_of_toNat_eq;simp;omega
  ·rintro rfl;simp
 rw[hw,RR];generalize BitVec.ofInt 64 s=x at*;have h3:(x&&& BitVec.ofInt 64 1023).toNat=x.toNat%1024:=by
  rw[BitVec.toNat_and];show x.toNat&&& (2^10-1)=_;rw[Nat.and_two_pow_sub_one_eq_mod]
 constructor
 ·intro h;have:=congrArg BitVec.toNat h;rw[h3]at this;omega
 ·intro h;apply BitVec.eq_of_toNat_eq;rw[h3];omega
def Ab(v:Vt):Prop:=(1<=v.kind/\v.kind<=7)/\(0<=v.signer/\v.signer<=9)/\((v.choice=1)↔¬v.value=Nm.zero)/\(0<=v.support/\v.support<=1023)/\
 ((v.kind=1∨v.kind=2)->(0<=v.slot/\v.slot<=9)/\v.round=0/\v.support=0/\v.choice=1)/\
 (v.kind=3->(0<=v.slot/\v.slot<=9)/\(1<=v.round/\v.round<=12)/\(0<=v.choice/\v.choice<=1)/\(v.round≠1∨v.choice≠0∨v.support=0))/\
 (v.kind=4->(0<=v.slot/\v.slot<=9)/\(1<=v.round/\v.round<=12)/\(0<=v.choice/\v.choice<=2))/\
 (5<=v.kind->v.slot=0/\v.round=0/\v.support=0/\v.choice=1)
instance (v:Vt):Decidable (Ab v):=by unfold Ab;infer_instance
def Vt.ok(v:Vt):Prop:=-9223372036854775808<=v.support/\v.support<=9223372036854775807
theorem Fj{P:Program}{f:FuncId}{args:Array Value}{w:World}{a n:Nat}{v:Value}(h:Calls P f args (w.drewN (a+n)) fun e w'=>e= .returned v/\w'=w.drewN (a+n)):Calls P f args (w.drewN (a+n)) fun e w''=>e= .returned v/\∃m,w''=w.drewN (a+m):=
 h.mono fun _ _ ⟨he,hm⟩=>⟨he,n,hm⟩
theorem Eb{a b:Bool}(h:a=b):Ending.returned (.bool a)= .returned (.bool b):=by rw[h]
theorem GZ(n lo hi:Int):(btw n lo hi=true)=(lo<=n/\n<=hi):=by simp[btw]
theorem IT{b:Bool}{p:Prop}[Decidable p](h:b=true↔p):b=decide p:=by
 by_cases hp:p
 ·rw[decide_eq_true hp];exact h.2 hp
 ·rw[decide_eq_false hp];exact Bool.eq_false_iff.2 fun hb=>hp (h.1 hb)
theorem J0(v:Vt)(w:World)(hv:v.ok)(hk:btw v.kind 1 7=true)(hs:btw v.signer 0 9=true)(zb:Bool)(hc:(v.choice==1)=true)(hzb:zb=decide (v.value=Nm.zero))(hz:zb=false)(hr:(v.round==0)=true):Calls prog 49 #[v.val] w fun e w'=>e= .returned (.bool (decide (Ab v)))/\ZN w w':=by
 have e0:=fun w=>Jb v.value w
 rw[<-hzb]at e0;have Hzb:=AA hzb;clear hzb;subst hz;go_enter func49,ntmps49;go_wp2_with ((go_at_call 84;refine(Bv _ _ _ _).mono ?_;rintro e w' ⟨rfl,rfl⟩))
 go_quiet (fail)
 go_wp2_with ((go_at_call 84;refine(Bv _ _ _ _).mono ?_;rintro e w' ⟨rfl,rfl⟩))
 ·go_ret;refine⟨Eb ?_,BL ((AC _ _).alloc (AB _) _) _⟩;have hn:¬(0<=v.support/\v.support<=1023):=by rw[<-Ck _ hv.1 hv.2];exact bne_iff_ne.1 ‹_›
  have hp:¬Ab v:=fun h=>hn h.2.2.2.1
  simp[hp]
 ·have hh:(bits BinOp.andNot IntKind.i64 v.support 1023 !=0)=false:=by assumption
  have hn:(0<=v.support/\v.support<=1023):=by rw[<-Ck _ hv.1 hv.2];simpa using hh
  clear hh;have HN:=AA hn;clear hn
  go_quiet (fail)
  go_wp2_with ((go_at_call 84;refine(Bv _ _ _ _).mono ?_;rintro e w' ⟨rfl,rfl⟩))
  all_goals (try (go_quiet ((go_at_call 84;exact Fj (Bv _ _ _ _)))))
  all_goals (try (go_wp2_with ((go_at_call 84;refine(Bv _ _ _ _).mono ?_;rintro e w' ⟨rfl,rfl⟩))))
  all_goals (try go_ret)
  all_goals (refine⟨Eb (IT ?_),by repeat (first|exact(AC _ _).alloc (AB _) _|refine BL ?_ _)⟩)
  all_goals (have hz:¬v.value=Nm.zero:=(by simpa using Hzb.out))
  all_goals (have hn:=HN.out)
  all_goals (simp only[GZ,beq_iff_eq,beq_eq_false_iff_ne]at*)
  all_goals (unfold Ab)
  all_goals (simp only[hz,not_false_eq_true,iff_true,true_iff,false_iff,Bool.false_eq_true])
  all_goals omega
theorem I7(v:Vt)(w:World)(hv:v.ok)(hk:btw v.kind 1 7=true)(hs:btw v.signer 0 9=true)(zb:Bool)(hc:(v.choice==1)=true)(hzb:zb=decide (v.value=Nm.zero))(hz:zb=false)(hr:(v.round==0)=false):Calls prog 49 #[v.val] w fun e w'=>e= .returned (.bool (decide (Ab v)))/\ZN w w':=by
 have e0:=fun w=>Jb v.value w
 rw[<-hzb]at e0;have Hzb:=AA hzb;clear hzb;subst hz;go_enter func49,ntmps49;go_wp2_with ((go_at_call 84;refine(Bv _ _ _ _).mono ?_;rintro e w' ⟨rfl,rfl⟩))
 go_quiet (fail)
 go_wp2_with ((go_at_call 84;refine(Bv _ _ _ _).mono ?_;rintro e w' ⟨rfl,rfl⟩))
 ·go_ret;refine⟨Eb ?_,BL ((AC _ _).alloc (AB _) _) _⟩;have hn:¬(0<=v.support/\v.support<=1023):=by rw[<-Ck _ hv.1 hv.2];exact bne_iff_ne.1 ‹_›
  have hp:¬Ab v:=fun h=>hn h.2.2.2.1
  simp[hp]
 ·have hh:(bits BinOp.andNot IntKind.i64 v.support 1023 !=0)=false:=by assumption
  have hn:(0<=v.support/\v.support<=1023):=by rw[<-Ck _ hv.1 hv.2];simpa using hh
  clear hh;have HN:=AA hn;clear hn
  go_quiet (fail)
  go_wp2_with ((go_at_call 84;refine(Bv _ _ _ _).mono ?_;rintro e w' ⟨rfl,rfl⟩))
  all_goals (try (go_quiet ((go_at_call 84;exact Fj (Bv _ _ _ _)))))
  all_goals (try (go_wp2_with ((go_at_call 84;refine(Bv _ _ _ _).mono ?_;rintro e w' ⟨rfl,rfl⟩))))
  all_goals (try go_ret)
  all_goals (refine⟨Eb (IT ?_),by repeat (first|exact(AC _ _).alloc (AB _) _|refine BL ?_ _)⟩)
  all_goals (have hz:¬v.value=Nm.zero:=(by simpa using Hzb.out))
  all_goals (have hn:=HN.out)
  all_goals (simp only[GZ,beq_iff_eq,beq_eq_false_iff_ne]at*)
  all_goals (unfold Ab)
  all_goals (simp only[hz,not_false_eq_true,iff_true,true_iff,false_iff,Bool.false_eq_true])
  all_goals omega
theorem I8(v:Vt)(w:World)(hv:v.ok)(hk:btw v.kind 1 7=true)(hs:btw v.signer 0 9=true)(zb:Bool)(hc:(v.choice==1)=false)(hzb:zb=decide (v.value=Nm.zero))(hz:zb=true)(hr:(v.round==0)=true):Calls prog 49 #[v.val] w fun e w'=>e= .returned (.bool (decide (Ab v)))/\ZN w w':=by
 have e0:=fun w=>Jb v.value w
 rw[<-hzb]at e0;have Hzb:=AA hzb;clear hzb;subst hz;go_enter func49,ntmps49;go_wp2_with ((go_at_call 84;refine(Bv _ _ _ _).mono ?_;rintro e w' ⟨rfl,rfl⟩))
 go_quiet (fail)
 go_wp2_with ((go_at_call 84;refine(Bv _ _ _ _).mono ?_;rintro e w' ⟨rfl,rfl⟩))
 ·go_ret;refine⟨Eb ?_,BL ((AC _ _).alloc (AB _) _) _⟩;have hn:¬(0<=v.support/\v.support<=1023):=by rw[<-Ck _ hv.1 hv.2];exact bne_iff_ne.1 ‹_›
  have hp:¬Ab v:=fun h=>hn h.2.2.2.1
  simp[hp]
 ·have hh:(bits BinOp.andNot IntKind.i64 v.support 1023 !=0)=false:=by assumption
  have hn:(0<=v.support/\v.support<=1023):=by rw[<-Ck _ hv.1 hv.2];simpa using hh
  clear hh;have HN:=AA hn;clear hn
  go_quiet (fail)
  go_wp2_with ((go_at_call 84;refine(Bv _ _ _ _).mono ?_;rintro e w' ⟨rfl,rfl⟩))
  all_goals (try (go_quiet ((go_at_call 84;exact Fj (Bv _ _ _ _)))))
  all_goals (try (go_wp2_with ((go_at_call 84;refine(Bv _ _ _ _).mono ?_;rintro e w' ⟨rfl,rfl⟩))))
  all_goals (try go_ret)
  all_goals (refine⟨Eb (IT ?_),by repeat (first|exact(AC _ _).alloc (AB _) _|refine BL ?_ _)⟩)
  all_goals (have hz:v.value=Nm.zero:=(by simpa using Hzb.out))
  all_goals (have hn:=HN.out)
  all_goals (simp only[GZ,beq_iff_eq,beq_eq_false_iff_ne]at*)
  all_goals (unfold Ab)
  all_goals (simp only[hz,not_true_eq_false,iff_false,true_iff,false_iff,Bool.false_eq_true])
  all_goals omega
theorem IU(v:Vt)(w:World)(hv:v.ok)(hk:btw v.kind 1 7=true)(hs:btw v.signer 0 9=true)(zb:Bool)(hc:(v.choice==1)=false)(hzb:zb=decide (v.value=Nm.zero))(hz:zb=true)(hr:(v.round==0)=false):Calls prog 49 #[v.val] w fun e w'=>e= .returned (.bool (decide (Ab v)))/\ZN w w':=by
 have e0:=fun w=>Jb v.value w
 rw[<-hzb]at e0;have Hzb:=AA hzb;clear hzb;subst hz;go_enter func49,ntmps49;go_wp2_with ((go_at_call 84;refine(Bv _ _ _ _).mono ?_;rintro e w' ⟨rfl,rfl⟩))
 go_quiet (fail)
 go_wp2_with ((go_at_call 84;refine(Bv _ _ _ _).mono ?_;rintro e w' ⟨rfl,rfl⟩))
 ·go_ret;refine⟨Eb ?_,BL ((AC _ _).alloc (AB _) _) _⟩;have hn:¬(0<=v.support/\v.support<=1023):=by rw[<-Ck _ hv.1 hv.2];exact bne_iff_ne.1 ‹_›
  have hp:¬Ab v:=fun h=>hn h.2.2.2.1
  simp[hp]
 ·have hh:(bits BinOp.andNot IntKind.i64 v.support 1023 !=0)=false:=by assumption
  have hn:(0<=v.support/\v.support<=1023):=by rw[<-Ck _ hv.1 hv.2];simpa using hh
  clear hh;have HN:=AA hn;clear hn
  go_quiet (fail)
  go_wp2_with ((go_at_call 84;refine(Bv _ _ _ _).mono ?_;rintro e w' ⟨rfl,rfl⟩))
  all_goals (try (go_quiet ((go_at_call 84;exact Fj (Bv _ _ _ _)))))
  all_goals (try (go_wp2_with ((go_at_call 84;refine(Bv _ _ _ _).mono ?_;rintro e w' ⟨rfl,rfl⟩))))
  all_goals (try go_ret)
  all_goals (refine⟨Eb (IT ?_),by repeat (first|exact(AC _ _).alloc (AB _) _|refine BL ?_ _)⟩)
  all_goals (have hz:v.value=Nm.zero:=(by simpa using Hzb.out))
  all_goals (have hn:=HN.out)
  all_goals (simp only[GZ,beq_iff_eq,beq_eq_false_iff_ne]at*)
  all_goals (unfold Ab)
  all_goals (simp only[hz,not_true_eq_false,iff_false,true_iff,false_iff,Bool.false_eq_true])
  all_goals omega
theorem DA(v:Vt)(w:World)(hv:v.ok):Calls prog 49 #[v.val] w fun e w'=>e= .returned (.bool (decide (Ab v)))/\ZN w w':=by
 by_cases hk:btw v.kind 1 7=true
 case neg=>
  have hp:¬Ab v:=fun h=>hk (by rw[GZ];exact h.1)
  have HP:=AA hp;clear hp;rw[Bool.not_eq_true]at hk;go_enter func49,ntmps49;go_wp2_with ((go_at_call 84;refine(Bv _ _ _ _).mono ?_;rintro e w' ⟨rfl,rfl⟩))
  go_ret;exact⟨Eb (decide_eq_false HP.out).symm,(AC _ _).alloc (AB _) _⟩
 by_cases hs:btw v.signer 0 9=true
 case neg=>
  have hp:¬Ab v:=fun h=>hs (by rw[GZ];exact h.2.1)
  have HP:=AA hp;clear hp;rw[Bool.not_eq_true]at hs;go_enter func49,ntmps49;go_wp2_with ((go_at_call 84;refine(Bv _ _ _ _).mono ?_;rintro e w' ⟨rfl,rfl⟩))
  go_ret;exact⟨Eb (decide_eq_false HP.out).symm,(AC _ _).alloc (AB _) _⟩
 by_cases hz:v.value=Nm.zero
 ·by_cases hc:v.choice=1
  ·have hp:¬Ab v:=fun h=>absurd hz (h.2.2.1.1 hc)
   have HP:=AA hp;clear hp;obtain⟨zb,hzb⟩:=ZH (decide (v.value=Nm.zero));have e0:=fun w=>Jb v.value w
   rw[<-hzb]at e0;obtain rfl:zb=true:=by rw[hzb];exact decide_eq_true hz
   clear hzb hz;have hc':(v.choice==1)=true:=beq_iff_eq.2 hc;clear hc;go_enter func49,ntmps49;go_wp2_with ((go_at_call 84;refine(Bv _ _ _ _).mono ?_;rintro e w' ⟨rfl,rfl⟩))
   go_quiet (fail)
   go_wp2;go_ret;exact⟨Eb (decide_eq_false HP.out).symm,BL ((AC _ _).alloc (AB _) _) _⟩
  ·by_cases hr:v.round=0
   ·exact I8 v w hv hk hs true (beq_eq_false_iff_ne.2 hc) (decide_eq_true hz).symm rfl (beq_iff_eq.2 hr)
   ·exact IU v w hv hk hs true (beq_eq_false_iff_ne.2 hc) (decide_eq_true hz).symm rfl (beq_eq_false_iff_ne.2 hr)
 ·by_cases hc:v.choice=1
  ·by_cases hr:v.round=0
   ·exact J0 v w hv hk hs false (beq_iff_eq.2 hc) (decide_eq_false hz).symm rfl (beq_iff_eq.2 hr)
   ·exact I7 v w hv hk hs false (beq_iff_eq.2 hc) (decide_eq_false hz).symm rfl (beq_eq_false_iff_ne.2 hr)
  ·have hp:¬Ab v:=fun h=>hc (h.2.2.1.2 hz)
   have HP:=AA hp;clear hp;obtain⟨zb,hzb⟩:=ZH (decide (v.value=Nm.zero));have e0:=fun w=>Jb v.value w
   rw[<-hzb]at e0;obtain rfl:zb=false:=by rw[hzb];exact decide_eq_false hz
   clear hzb hz;have hc':(v.choice==1)=false:=beq_eq_false_iff_ne.2 hc;clear hc;go_enter func49,ntmps49;go_wp2_with ((go_at_call 84;refine(Bv _ _ _ _).mono ?_;rintro e w' ⟨rfl,rfl⟩))
   go_quiet (fail)
   go_wp2;go_ret;exact⟨Eb (decide_eq_false HP.out).symm,BL ((AC _ _).alloc (AB _) _) _⟩
abbrev DZ(k:Int×Int):Value:=.agg #[I k.1,I k.2]
theorem U2(a b:Int×Int)(w:World):(Op.equal 202 (DZ a) (DZ b)).run prog w= .ok (decide (a=b)) w:=by
 show(Op.equalIn 10000 202 (DZ a) (DZ b)).run prog w=_;have u3:=underlying3;have a3:=isAgg3;have z3:=sizeOf3;rw[Op.equalIn];simp only[Sem.run_bind,run_underlying underlying202,Result.andThen_ok];simp only[Std.Legacy.Range.forIn_eq_forIn_range',Std.Legacy.Range.size,Nat.sub_zero,Nat.add_sub_cancel,Nat.div_one,List.range'_succ,List.range'_zero,List.forIn_cons,List.forIn_nil];go_simp;rw[Ea];refine EZ w ?_;cases a;cases b;simp
theorem Ga(b:Bool)(d:Nat)(n:Int)(w:World):(Instr.checkKey b (d+1) 3 (.int .i64 n)).run prog w= .ok () w:=by
 rw[Instr.checkKey,Sem.run_bind,run_underlying underlying3];rfl
theorem KM(b:Bool)(d:Nat)(n:Int)(w:World):(Instr.checkKey b (d+1) 5 (.int .u8 n)).run prog w= .ok () w:=by
 rw[Instr.checkKey,Sem.run_bind,run_underlying underlying5];rfl
theorem O0(b:Bool)(k:Int×Int)(w:World):(Instr.checkKey b 10000 202 (DZ k)).run prog w= .ok () w:=by
 have a3:=isAgg3;have z3:=sizeOf3;have hi:=fun n w=>Ga b 9998 n w
 rw[Instr.checkKey];simp only[Sem.run_bind,run_underlying underlying202,Result.andThen_ok];simp only[Std.Legacy.Range.forIn_eq_forIn_range',Std.Legacy.Range.size,Nat.sub_zero,Nat.add_sub_cancel,Nat.div_one,List.range'_succ,List.range'_zero,List.forIn_cons,List.forIn_nil];go_simp
theorem GE(n:Nat)(cs:Array Value)(h:∀v∈cs.toList,Instr.sameBits n v v=true):Instr.sameBits (n+1) (.agg cs) (.agg cs)=true:=by
 rw[Instr.sameBits,Bool.and_eq_true];refine⟨by simp,?_⟩;rw[List.all_eq_true];intro p hp;obtain⟨i,hi⟩:=List.mem_iff_getElem?.1 hp;rw[List.getElem?_zip_eq_some]at hi;have e:p.1=p.2:=by
  have:=hi.1.symm.trans hi.2;exact Option.some.inj this
 obtain⟨p1,p2⟩:=p;simp only at e;subst e;exact h p1 (AM hi.1)
theorem RS:Es prog 202 DZ where
 desc:=⟨_,underlying202,fun _ _=>rfl⟩
 check:=O0
 eq:=U2
 bits k:=GE 9999 _ (by intro v hv;simp at hv;rcases hv with rfl|rfl <;> simp[Instr.sameBits])
end
section
open Go.RowKit
open Go.ChangeMaps (setBlock)
section
variable {κ:Type}
def Bp(enc:κ->Value)(w:World)(m:Nat)(l:List (κ×Value)):Prop:=
 ∃es clock,w.heap[m]? =some (.map es clock)/\es.toList.map (fun e=>(e.key,e.val))=l.map (fun p=>(enc p.1,p.2))/\(es.toList.map (·.born)).Nodup/\∀e∈es.toList,e.born<clock
def Rng(enc:κ->Value)(w:World)(m r:Nat)(l:List (κ×Value))(cnt:Nat):Prop:=
 ∃es clock since c0 seen,w.heap[m]? =some (.map es clock)/\w.heap[r]? =some (.mapIter (some m) since seen c0)/\es.toList.map (fun e=>(e.key,e.val))=l.map (fun p=>(enc p.1,p.2))/\(es.toList.map (·.born)).Nodup/\(∀e∈es.toList,e.born<since)/\since<=c0/\since<=clock/\cnt=(leftOf es seen).size
def KN(m r:Nat)(w:World):Nat:=match w.heap[m]?,w.heap[r]? with
 |some (.map es _),some (.mapIter _ _ seen _)=>(leftOf es seen).size
 |_,_=>0
variable {enc:κ->Value}{w w':World}{m r cnt:Nat}{l:List (κ×Value)}{P:Program}{kt:TypeId}
theorem Bp.is(h:Bp enc w m l):By enc w m l:=by
 obtain⟨es,c,h1,h2,_⟩:=h;exact⟨es,c,h1,h2⟩
theorem Bp.new(enc:κ->Value)(w:World):Bp enc (w.alloc (.map #[] 0)) w.heap.size []:=⟨#[],0,heap_alloc_new w _,rfl,by simp,by simp⟩
theorem Bp.alloc(h:Bp enc w m l)(o:Obj):Bp enc (w.alloc o) m l:=by
 have hl:=h.is.lt;obtain⟨es,c,h1,h2⟩:=h;exact⟨es,c,(Below.heap_alloc w o m hl).trans h1,h2⟩
theorem Bp.below{B':Nat}(h:Bp enc w m l)(hb:Below B' w w')(hm:m<B'):Bp enc w' m l:=by
 obtain⟨es,c,h1,h2⟩:=h;exact⟨es,c,(hb.block m hm).trans h1,h2⟩
theorem Bp.kept{row:Option Nat}(h:Bp enc w m l)(hg:w.grownBy w' row)(hm:some m≠row):Bp enc w' m l:=by
 have hl:=h.is.lt;obtain⟨es,c,h1,h2⟩:=h;exact⟨es,c,(hg.block m hl hm).trans h1,h2⟩
theorem Rng.left_eq(h:Rng enc w m r l cnt):KN m r w=cnt:=by
 obtain⟨es,c,s,c0,seen,h1,h2,_,_,_,_,_,h8⟩:=h;unfold KN;rw[h1,h2,h8]
theorem Rng.lt(h:Rng enc w m r l cnt):r<w.heap.size:=by
 obtain⟨es,c,s,c0,seen,h1,h2,_⟩:=h;exact(Aa.1 h2).1
theorem Rng.mlt(h:Rng enc w m r l cnt):m<w.heap.size:=by
 obtain⟨es,c,s,c0,seen,h1,h2,_⟩:=h;exact(Aa.1 h1).1
theorem DS(es:Array MapEntry)(j:Nat)(f:MapEntry->MapEntry)(hf:∀e,(f e).born=e.born):(es.modify j f).toList.map (·.born)=es.toList.map (·.born):=by
 apply List.ext_getElem?;intro i;simp only[AQ,Array.getElem?_toList,Array.getElem?_modify];split
 ·rw[Option.map_map];congr 1
  funext e
  exact hf e
 ·rfl
variable [DecidableEq κ]
theorem Bp.store(h:Bp enc w m l)(K:Es P kt enc){t e:TypeId}(ht:P.underlying t=some (.map kt e))(k:κ)(v:Value):∃w',(Instr.mapUpdate t (.map (some m)) (enc k) v).run P w= .ok () w'/\Bp enc w' m (CP k v l)/\w.grownBy w' (some m)/\w'.heap.size=w.heap.size:=by
 obtain⟨es,c,h1,h2,h3,h4⟩:=h;have hlt:=(Aa.1 h1).1;have put:∀o:Obj,({w with heap:=w.heap.setIfInBounds m o}:World).heap[m]? =some o:=fun o=>by simp[hlt]
 have gr:∀o:Obj,w.grownBy {w with heap:=w.heap.setIfInBounds m o} (some m):=fun o=>⟨rfl,rfl,rfl,by simp,fun i hi hne=>by
  have:m≠i:=fun e=>hne (by rw[e])
  simp[this]⟩
 unfold Instr.mapUpdate;simp only[Sem.run_bind,run_underlying ht,Result.andThen_ok,MapKept.run_getObj_map h1,K.check,Et K k w es.toList l h2];rcases EY K k w es.toList l 0 h2 with⟨_,a2,a3⟩|⟨j,u,_,⟨e',b2,b3,b4⟩,b5,b6,b7⟩
 ·rw[a3];simp only[Result.andThen_ok];refine⟨_,MapKept.run_setObj_map _ h1,⟨_,_,put _,?_,?_,?_⟩,gr _,by simp⟩
  ·rw[a2];simp[h2]
  ·rw[Array.toList_push,Ae,List.nodup_append];refine⟨h3,by simp,?_⟩;intro x hx y hy;obtain⟨e1,he1,rfl⟩:=List.mem_map.1 hx;simp only[List.map_cons,List.map_nil,AU]at hy;have:=h4 e1 he1;omega
  ·intro x hx;rw[Array.toList_push]at hx;rcases AP.1 hx with hx|hx
   ·have:=h4 x hx;omega
   ·rw[AU.1 hx];exact Nat.lt_succ_self c
 ·rw[b7];simp only[Result.andThen_ok,Sem.run_bind,Nat.zero_add];have he:es[j]? =some e':=by rw[<-Array.getElem?_toList];exact b2
  have hs:(Instr.keyThatStays (((es[j]?).map (·.key)).getD (enc k)) (enc k)).run P w= .ok (enc k) w:=by
   rw[he];unfold Instr.keyThatStays;simp only[Option.map_some,Option.getD_some,b3,K.bits,if_true];rfl
  rw[hs];simp only[Result.andThen_ok];refine⟨_,MapKept.run_setObj_map _ h1,⟨_,_,put _,?_,?_,?_⟩,gr _,by simp⟩
  ·rw[b5];apply List.ext_getElem?;intro i;have h3:=congrArg (fun x=>x[i]?) h2;simp only[AQ,Array.getElem?_toList]at h3 ⊢;rw[Array.getElem?_modify,List.getElem?_set];by_cases hij:j=i
   ·subst hij;simp[he,b6]
   ·simp[hij,h3]
  ·rw[DS es j (fun e=>{e with key:=enc k,val:=v}) (fun _=>rfl)];exact h3
  ·intro x hx;have hb:x.born∈(es.toList.map (·.born)):=by
    rw[<-DS es j (fun e=>{e with key:=enc k,val:=v}) (fun _=>rfl)];exact List.mem_map.2 ⟨x,hx,rfl⟩
   obtain⟨y,hy,hyb⟩:=List.mem_map.1 hb;rw[<-hyb];exact h4 y hy
end
section
variable {κ:Type}{enc:κ->Value}{P:Program}(w:World){ops:Array Oper}{rest:List Oper}{o:Oper}{a:Act}{Q:Exit->Act->World->Prop}
end
end
section
open Go.RowKit
section
variable {κ:Type}{enc:κ->Value}{w w':World}{m b:Nat}{l:List (κ×Value)}{P:Program}{kt:TypeId}{k:κ}
def Upd[DecidableEq κ](k:κ)(v:Value)(l l':List (κ×Value)):Prop:=∀p∈l',p∈l∨p=(k,v)
theorem Gz:∀(es:List MapEntry) (i:Nat) (e:MapEntry),(es.map (·.born)).Nodup->es[i]? =some e->es.findIdx? (fun x=>(x.born:Int)==(e.born:Int))=some i
 |[],i,e,_,h=>by simp at h
 |x::r,0,e,_,h=>by
  simp at h;subst h;simp[List.findIdx?_cons]
 |x::r,i+1,e,hn,h=>by
  simp only[List.getElem?_cons_succ]at h;rw[List.map_cons,List.nodup_cons]at hn;have hne:x.born≠e.born:=fun he=>hn.1 (by rw[he];exact List.mem_map.2 ⟨e,AM h,rfl⟩)
  have hb:((x.born:Int)==(e.born:Int))=false:=by simp;omega
  rw[List.findIdx?_cons,hb,Gz r i e hn.2 h];rfl
variable [DecidableEq κ]
theorem Sj(k:κ):∀(j:Nat) (l:List (κ×Value)),(∀v,CP k v l=l.set j (k,v))->j<l.length->(l[j]?).map (·.1)=some k
 |j,[],_,h=>by simp at h
 |0,p::r,h,_=>by
  by_cases hk:k=p.1
  ·simp[hk]
  ·have:=h undef;rw[CP,if_neg hk,List.set_cons_zero,List.cons.injEq]at this;exact absurd (by rw[this.1]) hk
 |j+1,p::r,h,hj=>by
  by_cases hk:k=p.1
  ·have h1:=h (.bool true);have h2:=h (.bool false);rw[CP,if_pos hk,List.set_cons_succ,List.cons.injEq]at h1 h2;have:=h1.1.trans h2.1.symm;injection this with _ h3
   injection h3 with h3
   cases h3
  ·rw[List.getElem?_cons_succ];refine Sj k j r (fun v=>?_) (by simpa using hj);have:=h v;rw[CP,if_neg hk,List.set_cons_succ,List.cons.injEq]at this;exact this.2
end
def NO(v k:UInt64):UInt64:=v<<<k|||v>>>(64-k)
theorem W6(v:UInt64):bits BinOp.or IntKind.u64 (IntKind.u64.wrap ((v.toNat:Int)*8192)) ((v.toNat:Int)/2251799813685248)=((NO v 13).toNat:Int):=by
 have h1:IntKind.u64.wrap ((v.toNat:Int)*8192)=((v<<<(13:UInt64)).toNat:Int):=by
  rw[UInt64.toNat_shiftLeft,IntKind.wrap_u64];simp only[show((13:UInt64).toNat%64)=13 from rfl,Nat.shiftLeft_eq];omega
 have h2:((v.toNat:Int)/2251799813685248)=((v>>>(64-13:UInt64)).toNat:Int):=by
  rw[UInt64.toNat_shiftRight];simp only[show((64-13:UInt64).toNat%64)=51 from rfl,Nat.shiftRight_eq_div_pow];omega
 rw[h1,h2,X6];rfl
theorem W7(v:UInt64):bits BinOp.or IntKind.u64 (IntKind.u64.wrap ((v.toNat:Int)*4294967296)) ((v.toNat:Int)/4294967296)=((NO v 32).toNat:Int):=by
 have h1:IntKind.u64.wrap ((v.toNat:Int)*4294967296)=((v<<<(32:UInt64)).toNat:Int):=by
  rw[UInt64.toNat_shiftLeft,IntKind.wrap_u64];simp only[show((32:UInt64).toNat%64)=32 from rfl,Nat.shiftLeft_eq];omega
 have h2:((v.toNat:Int)/4294967296)=((v>>>(64-32:UInt64)).toNat:Int):=by
  rw[UInt64.toNat_shiftRight];simp only[show((64-32:UInt64).toNat%64)=32 from rfl,Nat.shiftRight_eq_div_pow];omega
 rw[h1,h2,X6];rfl
theorem QT{a b:Int}(h:a=b):Ending.returned (.int .u64 a)= .returned (.int .u64 b):=by rw[h]
theorem X8(v:UInt64)(w:World):Calls prog 183 #[U v,.int .i64 13] w fun e w'=>e= .returned (U (NO v 13))/\w'=w:=by
 have hb:bits BinOp.and IntKind.u64 13 63=13:=by decide+kernel
 go_enter func183,ntmps183;go_wp2;go_ret;exact⟨QT (W6 v),rfl⟩
theorem X9(v:UInt64)(w:World):Calls prog 183 #[U v,.int .i64 32] w fun e w'=>e= .returned (U (NO v 32))/\w'=w:=by
 have hb:bits BinOp.and IntKind.u64 32 63=32:=by decide+kernel
 go_enter func183,ntmps183;go_wp2;go_ret;exact⟨QT (W7 v),rfl⟩
def XA(s:UInt64×UInt64):UInt64×UInt64:=(NO (s.1+s.2) 32*0x9e3779b97f4a7c15,NO s.2 13^^^(s.1+s.2))
theorem U3(x:UInt64):IntKind.u64.wrap ((x.toNat:Int)*11400714819323198485)=((x*0x9e3779b97f4a7c15).toNat:Int):=by
 rw[IntKind.wrap_u64,UInt64.toNat_mul,show(0x9e3779b97f4a7c15:UInt64).toNat=11400714819323198485 from rfl];omega
def GF:Nat->UInt64×UInt64->UInt64×UInt64
 |0,s=>s
 |n+1,s=>XA (GF n s)
theorem QU(n:Nat)(x y:UInt64)(b:Nat)(w:World)(hn:n<=1000)(hb:Blk w b 193 #[U x,U y]):Calls prog 126 #[.pointer (some ⟨b,0,none⟩),.int .i64 n] w fun e w'=>e= .returned (.tuple #[])/\Blk w' b 193 #[U (GF n (x,y)).1,U (GF n (x,y)).2]/\w.grownBy w' (some b)/\w'.heap.size=w.heap.size:=by
 go_enter func126,ntmps126;go_wp2
 go_loopw [5] (fun i wr=>∃k:Nat,k<=n/\i= .int .i64 k/\Blk wr b 193 #[U (GF k (x,y)).1,U (GF k (x,y)).2]/\w.grownBy wr (some b)/\wr.heap.size=w.heap.size)
  (fun i _=>n-(intOf i).toNat)
 case atStart=>exact⟨0,Nat.zero_le _,rfl,hb,Am _ _,rfl⟩
 case round=>
  obtain⟨k,hk,rfl,hB,hg,hs⟩:=hrel;by_cases hlt:k<n
  ·have hER:GF (k+1) (x,y)=XA (GF k (x,y)):=rfl;have Hs:=AA hER;clear hER;generalize hm:GF k (x,y)=s at*;obtain⟨a,c⟩:=s;have Hm:=AA hm;clear hm;have c0:=hB.cell 0;have c1:=hB.cell 1;have f0:=hB.frozen 0;have f1:=hB.frozen 1;simp at c0 c1;go_wp2
   go_region
   simp only[X7];generalize ze:a+c=s at*;have Hsum:=AA ze;clear ze;have hB2:=(hB.put 0 (U s)).drew;have hg2:=Bd (Bl hg (p:=⟨b,0,none⟩) rfl (U s));have hs2:((wr.setCell ⟨b,0,none⟩ (U s)).drew).heap.size=w.heap.size:=by simpa[World.setCell]using hs
   generalize (World.setCell wr ⟨b,0,none⟩ (U s)).drew=w2 at*;clear hB hg hs c0 c1 f0 f1;have c0:=hB2.cell 0;have c1:=hB2.cell 1;have f0:=hB2.frozen 0;have f1:=hB2.frozen 1;simp at c0 c1;go_wp2;refine wp_region_still_tail 11 (by kernel_rfl) (by kernel_rfl) ?_;simp only[List.take_succ_cons,List.take_zero,List.drop_succ_cons,List.drop_zero]
   iterate 5 still_step
   still_call (X8 _ _)
   iterate 5 still_step
   refine wpStill_nil ?_;change wpList _ _ _ _ _ w2.drew;go_wp2_with fail
   simp only[QR];generalize hx2:NO c 13^^^s=y2 at*;have Hx2:=AA hx2;clear hx2;have hB3:=(hB2.put 1 (U y2)).drew;have hg3:=Bd (Bl hg2 (p:=⟨b,1,none⟩) rfl (U y2));have hs3:((w2.setCell ⟨b,1,none⟩ (U y2)).drew).heap.size=w.heap.size:=by simpa[World.setCell]using hs2
   generalize (w2.setCell ⟨b,1,none⟩ (U y2)).drew=w3 at*;clear hB2 hg2 hs2 c0 c1 f0 f1;have c0:=hB3.cell 0;have c1:=hB3.cell 1;have f0:=hB3.frozen 0;simp at c0 c1;refine(X9 _ _).mono ?_;rintro e w' ⟨rfl,rfl⟩;go_wp2_with fail
   simp only[U3];go_roundw
   case rel=>
    refine⟨k+1,by omega,by go_num,?_,?_,?_⟩
    ·rw[Hs.out];have:=hB3.put 0 (U (NO s 32*0x9e3779b97f4a7c15));simp only[XA,Hsum.out,Hx2.out];exact this
    ·exact Bl hg3 rfl _
    ·simpa[World.setCell]using hs3
   case measure=>simp[intOf];omega
  ·obtain rfl:k=n:=by omega
   go_wp2;go_end0;exact⟨rfl,hB,hg,hs⟩
def Cf(l:List UInt8):Nat:=l.foldl (fun v b=>v*256+b.toNat) 0
theorem RT(l:List UInt8)(b:UInt8):Cf (l++[b])=Cf l*256+b.toNat:=by simp[Cf]
theorem Jc:∀(l:List UInt8) (v:Nat),l.foldl (fun v b=>v*256+b.toNat) v<(v+1)*256^l.length
 |[],v=>by simp
 |b::r,v=>by
  have hb:=b.toNat_lt;have h:=Jc r (v*256+b.toNat);rw[List.foldl_cons,Ah,Nat.pow_succ];refine Nat.lt_of_lt_of_le h ?_;rw[Nat.mul_comm (256^r.length) 256,<-Nat.mul_assoc];exact Nat.mul_le_mul_right _ (by omega)
theorem J8(l:List UInt8):Cf l<256^l.length:=by
 have:=Jc l 0;simpa[Cf]using this
theorem Sk(a b k:Nat)(hb:b<2^k)(h:2^k*a+b<18446744073709551616):bits .or .u64 ((2^k*a:Nat):Int) (b:Int)=((2^k*a+b:Nat):Int):=by
 show IntKind.u64.wrap ((BitVec.ofInt 64 ((2^k*a:Nat):Int)|||BitVec.ofInt 64 (b:Int)).toNat:Int)=_;rw[BitVec.toNat_or,BitVec.ofInt_natCast,BitVec.ofInt_natCast,BitVec.toNat_ofNat,BitVec.toNat_ofNat,Nat.mod_eq_of_lt (by omega),Nat.mod_eq_of_lt (by omega),<-Nat.two_pow_add_eq_or_of_lt hb,IntKind.wrap_u64];omega
theorem EJ(v:Nat)(b:UInt8)(hv:v<72057594037927936):bits .or .u64 (IntKind.u64.wrap ((v:Int)*256)) (IntKind.u64.wrap (b.toNat:Int))=((v*256+b.toNat:Nat):Int):=by
 have hb:=b.toNat_lt;have e1:IntKind.u64.wrap ((v:Int)*256)=((2^8*v:Nat):Int):=by rw[IntKind.wrap_u64];omega
 have e2:IntKind.u64.wrap (b.toNat:Int)=((b.toNat:Nat):Int):=by rw[IntKind.wrap_u64];omega
 rw[e1,e2,Sk v b.toNat 8 (by omega) (by omega)];omega
theorem U4(b:UInt8):bits .or .u64 0 (IntKind.u64.wrap (b.toNat:Int))=((b.toNat:Nat):Int):=by
 have h:=EJ 0 b (by omega);have z:IntKind.u64.wrap (((0:Nat):Int)*256)=0:=by rw[IntKind.wrap_u64];rfl
 rw[z,Nat.zero_mul,Nat.zero_add]at h;exact h
theorem Sl(b0 b1 b2 b3 b4 b5 b6 b7:UInt8):bits .or .u64 (IntKind.u64.wrap (bits .or .u64 (IntKind.u64.wrap (bits .or .u64 (IntKind.u64.wrap (bits .or .u64 (IntKind.u64.wrap (bits .or .u64 (IntKind.u64.wrap (bits .or .u64 (IntKind.u64.wrap (bits .or .u64 (IntKind.u64.wrap (bits .or .u64 0 (IntKind.u64.wrap (b0.toNat:Int))*256)) (IntKind.u64.wrap (b1.toNat:Int))*256)) (IntKind.u64.wrap (b2.toNat:Int))*256)) (IntKind.u64.wrap (b3.toNat:Int))*256)) (IntKind.u64.wrap (b4.toNat:Int))*256)) (IntKind.u64.wrap (b5.toNat:Int))*256)) (IntKind.u64.wrap (b6.toNat:Int))*256)) (IntKind.u64.wrap (b7.toNat:Int))=((Cf [b0,b1,b2,b3,b4,b5,b6,b7]:Nat):Int):=by
 have h0:=b0.toNat_lt;have h1:=b1.toNat_lt;have h2:=b2.toNat_lt;have h3:=b3.toNat_lt;have h4:=b4.toNat_lt;have h5:=b5.toNat_lt;have h6:=b6.toNat_lt;rw[U4,EJ _ b1 (by omega),EJ _ b2 (by omega),EJ _ b3 (by omega),EJ _ b4 (by omega),EJ _ b5 (by omega),EJ _ b6 (by omega),EJ _ b7 (by omega)];simp[Cf]
theorem ix0(a b c d e f g h:Value)(w:World):(Instr.index 24 (.agg #[a,b,c,d,e,f,g,h]) (.int .i64 0)).run prog w= .ok a w:=by kernel_rfl
theorem ix1(a b c d e f g h:Value)(w:World):(Instr.index 24 (.agg #[a,b,c,d,e,f,g,h]) (.int .i64 1)).run prog w= .ok b w:=by kernel_rfl
theorem ix2(a b c d e f g h:Value)(w:World):(Instr.index 24 (.agg #[a,b,c,d,e,f,g,h]) (.int .i64 2)).run prog w= .ok c w:=by kernel_rfl
theorem ix3(a b c d e f g h:Value)(w:World):(Instr.index 24 (.agg #[a,b,c,d,e,f,g,h]) (.int .i64 3)).run prog w= .ok d w:=by kernel_rfl
theorem ix4(a b c d e f g h:Value)(w:World):(Instr.index 24 (.agg #[a,b,c,d,e,f,g,h]) (.int .i64 4)).run prog w= .ok e w:=by kernel_rfl
theorem ix5(a b c d e f g h:Value)(w:World):(Instr.index 24 (.agg #[a,b,c,d,e,f,g,h]) (.int .i64 5)).run prog w= .ok f w:=by kernel_rfl
theorem ix6(a b c d e f g h:Value)(w:World):(Instr.index 24 (.agg #[a,b,c,d,e,f,g,h]) (.int .i64 6)).run prog w= .ok g w:=by kernel_rfl
theorem ix7(a b c d e f g h:Value)(w:World):(Instr.index 24 (.agg #[a,b,c,d,e,f,g,h]) (.int .i64 7)).run prog w= .ok h w:=by kernel_rfl
attribute [local go_sem] ix0 ix1 ix2 ix3 ix4 ix5 ix6 ix7
def Gb(w:World)(x:Nat)(e:Ending)(w':World):Prop:=e= .returned (.int .u64 (x:Int))/\ZN w w'
theorem Hi(n:Nm)(w:World):Calls prog 182 #[n.val] w (Gb w (Cf n.bytes)):=by
 go_enter func182,ntmps182;go_wp2;refine wp_loop_rounds 9 ?_
 iterate 9 (rw[rounds_succ];go_wp2)
 go_ret;exact⟨QT (Sl n.b0 n.b1 n.b2 n.b3 n.b4 n.b5 n.b6 n.b7),(AC _ _).alloc (AB _) _⟩
def bt(v k:Nat):UInt8:=UInt8.ofNat (v/256^k)
def ofN(v:Nat):Nm:=⟨bt v 7,bt v 6,bt v 5,bt v 4,bt v 3,bt v 2,bt v 1,bt v 0⟩
theorem Hj(v k p:Nat)(hp:256^k=p):B (bt v k)= .int .u8 ((v:Int)/(p:Int)%256):=by
 subst hp;rw[Value.int.injEq];refine⟨rfl,?_⟩;simp[bt]
theorem U5(v:Nat):B (bt v 0)= .int .u8 ((v:Int)%256):=by
 simp[bt]
theorem U6(v:Nat):(ofN v).val= .agg #[.int .u8 ((v:Int)/72057594037927936%256),.int .u8 ((v:Int)/281474976710656%256),.int .u8 ((v:Int)/1099511627776%256),.int .u8 ((v:Int)/4294967296%256),.int .u8 ((v:Int)/16777216%256),.int .u8 ((v:Int)/65536%256),.int .u8 ((v:Int)/256%256),.int .u8 ((v:Int)%256)]:=by
 simp only[Nm.val,ofN];rw[Hj v 7 72057594037927936 (by decide),Hj v 6 281474976710656 (by decide),Hj v 5 1099511627776 (by decide),Hj v 4 4294967296 (by decide),Hj v 3 16777216 (by decide),Hj v 2 65536 (by decide),Hj v 1 256 (by decide),U5];rfl
def BM(w:World)(n:Nm)(e:Ending)(w':World):Prop:=e= .returned n.val/\ZN w w'
theorem XB(v:Nat)(w:World):Calls prog 127 #[.int .u64 (v:Int)] w (BM w (ofN v)):=by
 go_enter func127,ntmps127;go_wp2;refine bodyPost_ret (results_cell_row (g:=w.heap.size) rfl _ _ _ _ _ _ rfl (heap_alloc_new w _) underlying24 rfl (by kernel_rfl)) rfl ⟨?_,(AC _ _).alloc (AB _) _⟩;rw[U6]
theorem Bf:(prog.info? 5).map (fun i=>(i.zero,i.size,i.bytes))=some (some (.int .u8 0),1,1):=by kernel_rfl
def Ca(w:World)(e size n:Nat)(xs:List Value)(en:Ending)(w':World):Prop:=
 ∃A c,en= .returned (.slice A n c)/\w'.ownsRow w.heap.size e size (.slice A n c) n xs/\ZN w w'
theorem QV(A:Option Addr)(len c n:Nat)(xs:List Value)(w:World)(hl:xs.length=len)(hr:Rd w w.heap.size A xs)(h1:∀u∈xs,u.oneCell'=true)(hlen:len<=140737488351232)(hn:n<=8):Calls prog 119 #[.slice A len c,.int .i64 n] w (Ca w 5 1 len xs):=by
 obtain⟨i0,hi,hz0,hz1,hz2⟩:=info_parts Bf;have hmk:∀W:World,(Instr.makeSlice 60 (.int .i64 (len:Int)) (.int .i64 ((len:Int)+(n:Int)))).run prog W= .ok (.slice (some ⟨W.heap.size,0,none⟩) len (len+n)) (W.alloc (.cells (madeCells #[.int .u8 0] (len+n)) 5)):=fun W=>by
  have:=run_make (P:=prog) W 60 5 i0 (.int .u8 0) underlying60 hi hz0 .i64 .i64 len (len+n) (by omega) (by omega) (by rw[hz2];omega) (by omega);rw[this,hz1];simp only[Int.toNat_natCast,Nat.mul_one,Value.cells,show((len:Int)+(n:Int)).toNat=len+n from by omega]
 have Hl:=AA hl;clear hl;go_enter func119,ntmps119;go_wp2_with (refine wpList_copy_splice rfl (.tmp 13) (.tmp 14) _ _ rfl 5 underlying60 (by kernel_rfl) _ _ _ _ _ _ rfl rfl w.heap.size 0 (madeCells #[.int .u8 0] (len+n)).toList 5 ?h1 xs ?h2 ?h3 ?h4 h1 w.heap.size w ?h5 (AB _) ?_)
 case h1=>exact heap_alloc_new w _
 case h2=>have:=Hl.out;simp;omega
 case h3=>
  intro hp;obtain⟨b,o,rfl,hb,hc⟩:=hr.cells (by rintro rfl;simp at hp);refine⟨_,rfl,fun j v hv=>?_⟩;rw[Addr.add_mid,World.cell?_alloc_lt _ _ _ hb];exact hc j v hv
 case h4=>have:=Hl.out;simp[size_madeCells];omega
 case h5=>exact(AC _ _).alloc (AB _) _
 intro w1 hg hb;go_wp2;go_ret;refine⟨_,_,rfl,⟨by have:=Hl.out;simp;omega,.inr ⟨_,_,_,rfl,AB _,hg.out,by omega,by unfold maxLen;omega,?_,?_⟩⟩,hb⟩
 ·have:=Hl.out;simp[splice,size_madeCells];omega
 ·have:=Hl.out;subst this;simp[splice]
theorem NQ(A:Option Addr)(len c:Nat)(x:Int)(xs:List Value)(w:World)(hl:xs.length=len)(hr:Rd w w.heap.size A xs)(h1:∀u∈xs,u.oneCell'=true)(hlen:len<=140737488351232):Calls prog 80 #[.slice A len c,.int .u64 x,.int .i64 0] w (Ca w 5 1 len xs):=by
 have Hl:=AA hl;clear hl;have HR:=AA hr;clear hr;have H1:=AA h1;clear h1;go_enter func80,ntmps80;go_wp2_with fail
 refine(QV A len c 0 xs _ Hl.out HR.out H1.out hlen (by omega)).mono ?_;rintro e w1 ⟨A1,c1,rfl,xA,hb⟩;go_wp2_with fail
 refine wp_loop_rounds 1 ?_;rw[rounds_succ];go_wp2;go_ret;exact⟨A1,c1,rfl,xA,hb⟩
def BZ(v:Nat)(k:Nat):UInt8:=UInt8.ofNat (v/256^k)
theorem U7(v:Nat):B (BZ v 0)= .int .u8 ((v:Int)%256):=by
 simp[BZ]
theorem U8(v:Nat):B (BZ v 1)= .int .u8 ((v:Int)/256%256):=by
 simp[BZ]
theorem IV{u x:Value}(h:u∈[x])(hx:x.oneCell'=true):u.oneCell'=true:=by
 simp at h;subst h;exact hx
theorem KO(A:Option Addr)(len c v:Nat)(xs:List Value)(w:World)(hl:xs.length=len)(hr:Rd w w.heap.size A xs)(h1:∀u∈xs,u.oneCell'=true)(hlen:len<=1000000):Calls prog 80 #[.slice A len c,.int .u64 v,.int .i64 2] w (Ca w 5 1 (len+2) (xs++[B (BZ v 1),B (BZ v 0)])):=by
 have Hl:=AA hl;clear hl;have HR:=AA hr;clear hr;have H1:=AA h1;clear h1;go_enter func80,ntmps80;go_wp2_with fail
 refine(QV A len c 2 xs _ Hl.out HR.out H1.out (by omega) (by omega)).mono ?_;rintro e w1 ⟨A1,c1,rfl,xA,hb⟩;go_wp2_with fail
 refine wp_loop_rounds 3 ?_;rw[rounds_succ];go_wp2_with (at_builtin;refine Ar rfl (.tmp 21) (.tmp 27) _ rfl w.heap.size 5 (.int .u8 0) 1 1 underlying60 Bf rfl (by decide) _ len xs rfl (xA.alloc _) (w1.heap.size+1) _ 1 1 [B (BZ v 1)] rfl rfl ?r1 ?r2 ?r3 ?r4 ?r5 ?_)
 case r1=>rw[U8];exact Rd.one _ _ _
 case r2=>exact fun u hu=>IV hu rfl
 case r3=>omega
 case r4=>unfold maxLen;omega
 case r5=>have:=hb.size;simp;omega
 intro v2 w2 xG hg2 zO;have hb2:ZN w w2:=BJ (hb.alloc hb.size _) (xA.alloc _) hg2;clear zO hg2;go_wp2;rw[rounds_succ];go_wp2_with (at_builtin;refine Ar rfl (.tmp 21) (.tmp 27) _ rfl w.heap.size 5 (.int .u8 0) 1 1 underlying60 Bf rfl (by decide) _ (len+1) (xs++[B (BZ v 1)]) rfl (xG.alloc _) (w2.heap.size+1) _ 1 1 [B (BZ v 0)] rfl rfl ?q1 ?q2 ?q3 ?q4 ?q5 ?_)
 case q1=>rw[U7];exact Rd.one _ _ _
 case q2=>exact fun u hu=>IV hu rfl
 case q3=>omega
 case q4=>unfold maxLen;omega
 case q5=>have:=hb2.size;simp;omega
 intro v3 w3 xD hg3 yb;have hb3:ZN w w3:=BJ (hb2.alloc hb2.size _) (xG.alloc _) hg3;clear yb hg3;go_wp2;rw[rounds_succ];go_wp2;go_ret;obtain⟨A3,c3,rfl⟩:=Av xD;exact⟨A3,c3,rfl,by simpa using xD,hb3⟩
theorem Sm(A:Option Addr)(len c:Nat)(x:Int)(xs:List Value)(w:World)(hl:xs.length=len)(hr:Rd w w.heap.size A xs)(h1:∀u∈xs,u.oneCell'=true)(hlen:len<=1000000)(hx:0<=x):Calls prog 80 #[.slice A len c,.int .u64 x,.int .i64 2] w (Ca w 5 1 (len+2) (xs++[B (BZ x.toNat 1),B (BZ x.toNat 0)])):=by
 obtain⟨n,rfl⟩:=Int.eq_ofNat_of_zero_le hx;exact KO A len c n xs w hl hr h1 hlen
theorem Ba{u:Value}{l:List UInt8}(h:u∈l.map B):u.oneCell'=true:=by
 obtain⟨b,_,rfl⟩:=List.mem_map.1 h;rfl
end
end Go.Proofs.YtadllffeoibelaaGreat
