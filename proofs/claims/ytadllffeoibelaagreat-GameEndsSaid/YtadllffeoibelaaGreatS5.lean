/-
  Parts of the proof. No condition.
-/
import Derived.Test.YtadllffeoibelaaGreatS4
import Derived.Shelf.SlSortFuncK.WholeK
import Derived.Sort.OwnSorted
import Derived.Laws.IdiomStrings
import Derived.Laws.BytesArg
import Derived.WalkMore
import Derived.ScopeJumps
import Derived.Great.BuildSlice
import Derived.Great.Walk
open Go.Proofs.Tryz
namespace Go.Proofs.YtadllffeoibelaaGreat
set_option maxRecDepth 100000
set_option maxHeartbeats 32000000
set_option linter.all false
section
open Go.RowKit
structure Bc (α:Type) where
 enc:α->List Value
 tail:List Value
section
variable {α:Type}{c:Bc α}{t:TypeId}{w0:World}{g n f F:Nat}{sb lb:Array Value}{lt:α->α->Bool}{l0:List α}
structure Bv (c:Bc α)(t:TypeId)(w0:World)(g:Nat)(l:List α)(w:World):Prop where
 blk:Blk w g t (l.flatMap c.enc++c.tail).toArray
 kept:w0.grownBy w (some g)
theorem Bv.self{l:List α}{w:World}(h:Blk w g t (l.flatMap c.enc++c.tail).toArray):Bv c t w g l w:=⟨h,Al w g⟩
theorem Bv.trans{l l':List α}{w w':World}(h:Bv c t w0 g l w)(h':Bv c t w g l' w'):Bv c t w0 g l' w':=⟨h'.blk,h.kept.trans h'.kept⟩
theorem Bv.alloc{l:List α}{w:World}(h:Bv c t w0 g l w)(o:Obj):Bv c t w0 g l (w.alloc o):=⟨h.blk.alloc o,Bm h.kept o⟩
theorem Bv.below{l:List α}{w w':World}(h:Bv c t w0 g l w)(hb:Wx w w'):Bv c t w0 g l w':=
 ⟨h.blk.below hb h.blk.lt,h.kept.trans ⟨hb.os,hb.tape,hb.output,hb.size,fun i hi _=>hb.block i hi⟩⟩
theorem Bv.off{l:List α}{w w':World}{o:Obj}(h:Bv c t (w.alloc o) g l w'):Bv c t w g l w':=⟨h.blk,(Eg w o (some g)).trans h.kept⟩
theorem Bv.box{l:List α}{w:World}{k:Nat}{tb:TypeId}{cs:Array Value}(h:Bv c t w0 g l w)(hB:Blk w0 k tb cs)(hk:k≠g):Blk w k tb cs:=hB.kept h.kept (by simpa using hk)
def Fi(c:Bc α)(t:TypeId)(w0:World)(g:Nat)(l0:List α)(lt:α->α->Bool)(f:Nat)(lb:Array Value):Prop:=
 ∀(W:World) (l:List α) (i j:Nat) (x y:α),Bv c t w0 g l W->l.Perm l0->l[i]? =some x->l[j]? =some y->
  Calls prog f (#[.int .i64 (i:Int),.int .i64 (j:Int)]++lb) W fun e w'=>e= .returned (.bool (lt x y))/\Wx W w'
def Pa(c:Bc α)(t:TypeId)(w0:World)(g n:Nat)(f:Nat)(sb:Array Value):Prop:=
 ∀(W:World) (l:List α) (i j:Nat),Bv c t w0 g l W->l.length=n->i<n->j<n->2<=n->
  ∃W',(callFunc f (#[.int .i64 (i:Int),.int .i64 (j:Int)]++sb)).run prog W= .ok (.value (.tuple #[])) W'/\∃l',l'.Perm l/\Bv c t W g l' W'
structure Srt (c:Bc α)(t:TypeId)(w0:World)(g n f F:Nat)(sb lb:Array Value)(lt:α->α->Bool)(l0:List α):Prop where
 eg:∀args w,(callFunc F args).run prog w= .ok (.enter F args) w
 le:Fi c t w0 g l0 lt F lb
 sw:Pa c t w0 g n f sb
 len:l0.length=n
 small:n<=1000000
def Az(c:Bc α)(t:TypeId)(g:Nat)(l0:List α)(B V:World):Prop:=∃l',Bv c t B g l' V/\l'.Perm l0
theorem Az.trans{A B V:World}(h:Az c t g l0 A B)(h':Az c t g l0 B V):Az c t g l0 A V:=by
 obtain⟨l,h1,_⟩:=h;obtain⟨l',h2,h3⟩:=h';exact⟨l',h1.trans h2,h3⟩
theorem Az.self{A B:World}(h:Az c t g l0 A B):Az c t g l0 B B:=by
 obtain⟨l,h1,h2⟩:=h;exact⟨l,Bv.self h1.blk,h2⟩
theorem Az.glt{A B:World}(h:Az c t g l0 A B):g<B.heap.size:=by
 obtain⟨l,h1,_⟩:=h;exact h1.blk.lt
theorem Az.alloc{A B:World}(h:Az c t g l0 A B)(o:Obj):Az c t g l0 A (B.alloc o):=by
 obtain⟨l,h1,h2⟩:=h;exact⟨l,h1.alloc o,h2⟩
theorem Az.off{A V:World}{o:Obj}(h:Az c t g l0 (A.alloc o) V):Az c t g l0 A V:=by
 obtain⟨l,h1,h2⟩:=h;exact⟨l,h1.off,h2⟩
theorem Az.below{A V W:World}(h:Az c t g l0 A V)(hb:Wx V W):Az c t g l0 A W:=by
 obtain⟨l,h1,h2⟩:=h;exact⟨l,h1.below hb,h2⟩
theorem Az.box{A V:World}(h:Az c t g l0 A V){k:Nat}{tb:TypeId}{cs:Array Value}(hB:Blk A k tb cs)(hk:k≠g):Blk V k tb cs:=by
 obtain⟨l,h1,_⟩:=h;exact h1.box hB hk
theorem Az.size{A V:World}(h:Az c t g l0 A V):A.heap.size<=V.heap.size:=by
 obtain⟨l,h1,_⟩:=h;exact h1.kept.size
theorem Srt.less{B V:World}(H:Srt c t w0 g n f F sb lb lt l0)(hB:Az c t g l0 w0 B)(hV:Az c t g l0 B V)(i j:Nat)(hi:i<n)(hj:j<n):Calls prog F (#[.int .i64 (i:Int),.int .i64 (j:Int)]++lb) V fun e w'=>∃k,e= .returned (.bool k)/\Az c t g l0 B w':=by
 obtain⟨l,h1,h2⟩:=hV;obtain⟨m,h3,_⟩:=hB;have hl:l.length=n:=h2.length_eq.trans H.len;obtain⟨x,hx⟩:∃x,l[i]? =some x:=⟨_,AE (by omega)⟩;obtain⟨y,hy⟩:∃y,l[j]? =some y:=⟨_,AE (by omega)⟩;refine(H.le V l i j x y (h3.trans h1) h2 hx hy).mono ?_;rintro e w' ⟨rfl,hb⟩;exact⟨_,rfl,l,h1.below hb,h2⟩
theorem Srt.swap{B V:World}(H:Srt c t w0 g n f F sb lb lt l0)(hB:Az c t g l0 w0 B)(hV:Az c t g l0 B V)(i j:Nat)(hi:i<n)(hj:j<n)(hn2:2<=n):∃W',(callFunc f (#[.int .i64 (i:Int),.int .i64 (j:Int)]++sb)).run prog V= .ok (.value (.tuple #[])) W'/\Az c t g l0 B W':=by
 obtain⟨l,h1,h2⟩:=hV;obtain⟨m,h3,_⟩:=hB;obtain⟨W',hr,l',hp,hw⟩:=H.sw V l i j (h3.trans h1) (h2.length_eq.trans H.len) hi hj hn2;exact⟨W',hr,l',h1.trans hw,hp.trans h2⟩
theorem IG(H:Srt c t w0 g n f F sb lb lt l0)(lo hi first:Nat)(w:World)(hw:Az c t g l0 w0 w)(hh:first+hi<=n)(hlo:lo<=n):Calls prog 267 #[.agg #[.func (.func F) #[] lb,.func (.func f) #[] sb],.int .i64 (lo:Int),.int .i64 (hi:Int),.int .i64 (first:Int)] w fun e w'=>e= .returned (.tuple #[])/\Az c t g l0 w w':=by
 have HH:=AA H;have hgw:g<w.heap.size:=hw.glt;obtain⟨B,hB⟩:=Wr (w.alloc (.cells #[.func (.func F) #[] lb,.func (.func f) #[] sb] 190));have h0B:Az c t g l0 w0 B:=by rw[hB];exact hw.alloc _
 have hBB:Az c t g l0 B B:=h0B.self;have hBx:Blk B w.heap.size 190 #[.func (.func F) #[] lb,.func (.func f) #[] sb]:=by rw[hB];exact Blk.new _ _ _
 have xt:Hid (∀V,Az c t g l0 B V->Az c t g l0 w V):=fun V h=>by rw[hB]at h;exact h.off
 have HB0:=AA h0B;have HC:Hid (∀V,Az c t g l0 B V->V.cell? ⟨w.heap.size,0,none⟩=some (.func (.func F) #[] lb)/\V.cell? ⟨w.heap.size,1,none⟩=some (.func (.func f) #[] sb)):=fun V h=>⟨(h.box hBx (by omega)).cell 0,(h.box hBx (by omega)).cell 1⟩
 have eg:=H.eg;have hn6:=H.small;have HW:=AA hB;have HBB:=AA hBB;clear hw hB h0B hBB hBx H;go_enter func267,ntmps267;go_upto_region 1 with fail
 simp only[<-HW.out];go_upto_region 2 with fail
 go_loopw [8] (fun rv wr=>∃r:Nat,rv= .int .i64 (r:Int)/\r<=n/\Hid (Az c t g l0 B wr)) (fun rv _=>n-(intOf rv).toNat)
 case atStart=>exact⟨lo,rfl,hlo,HBB⟩
 case round=>
  obtain⟨r,rfl,hr,HP⟩:=hrel;obtain⟨c0,c1⟩:=HC.out _ HP.out;by_cases h1:2*r+1<hi
  ·have d1:decide ((hi:Int)<=2*(r:Int)+1)=false:=by simp;omega
   by_cases h2:2*r+1+1<hi
   ·have d2:decide (2*(r:Int)+1+1<(hi:Int))=true:=by simp;omega
    go_wp2_with fail
    have hl:=HH.out.less HB0.out HP.out (first+(2*r+1)) (first+(2*r+1)+1) (by omega) (by omega);try push_cast at hl
    refine hl.mono ?_;clear hl;rintro en w4 ⟨k4,rfl,hp⟩;have HP4:=AA hp;obtain⟨c0,c1⟩:=HC.out _ hp;clear hp;cases k4 with
    |true=>
     go_wp2_with fail
     have hl:=HH.out.less HB0.out HP4.out (first+r) (first+(2*r+1+1)) (by omega) (by omega);try push_cast at hl
     refine hl.mono ?_;clear hl;rintro en w5 ⟨k5,rfl,hp⟩;have HP5:=AA hp;obtain⟨c0,c1⟩:=HC.out _ hp;clear hp;cases k5 with
     |false=>
      go_wp2
      first
       |go_end0
       |refine bodyPost_ret (results_none rfl _ _ _) rfl ?_
      exact⟨rfl,xt.out _ HP5.out⟩
     |true=>
      obtain⟨w6,xK,hp⟩:=HH.out.swap HB0.out HP5.out (first+r) (first+(2*r+1+1)) (by omega) (by omega) (by omega);try push_cast at xK
      have HP6:=AA hp;obtain⟨c0',c1'⟩:=HC.out _ hp;clear hp;go_wp2;go_roundw
      case rel=>exact⟨2*r+1+1,by go_num,by omega,HP6⟩
      case measure=>simp[intOf];omega
    |false=>
     go_wp2_with fail
     have hl:=HH.out.less HB0.out HP4.out (first+r) (first+(2*r+1)) (by omega) (by omega);try push_cast at hl
     refine hl.mono ?_;clear hl;rintro en w5 ⟨k5,rfl,hp⟩;have HP5:=AA hp;obtain⟨c0,c1⟩:=HC.out _ hp;clear hp;cases k5 with
     |false=>
      go_wp2
      first
       |go_end0
       |refine bodyPost_ret (results_none rfl _ _ _) rfl ?_
      exact⟨rfl,xt.out _ HP5.out⟩
     |true=>
      obtain⟨w6,xK,hp⟩:=HH.out.swap HB0.out HP5.out (first+r) (first+(2*r+1)) (by omega) (by omega) (by omega);try push_cast at xK
      have HP6:=AA hp;obtain⟨c0',c1'⟩:=HC.out _ hp;clear hp;go_wp2;go_roundw
      case rel=>exact⟨2*r+1,by go_num,by omega,HP6⟩
      case measure=>simp[intOf];omega
   ·have d2:decide (2*(r:Int)+1+1<(hi:Int))=false:=by simp;omega
    go_wp2_with fail
    have hl:=HH.out.less HB0.out HP.out (first+r) (first+(2*r+1)) (by omega) (by omega);try push_cast at hl
    refine hl.mono ?_;clear hl;rintro en w5 ⟨k5,rfl,hp⟩;have HP5:=AA hp;obtain⟨c0,c1⟩:=HC.out _ hp;clear hp;cases k5 with
    |false=>
     go_wp2
     first
      |go_end0
      |refine bodyPost_ret (results_none rfl _ _ _) rfl ?_
     exact⟨rfl,xt.out _ HP5.out⟩
    |true=>
     obtain⟨w6,xK,hp⟩:=HH.out.swap HB0.out HP5.out (first+r) (first+(2*r+1)) (by omega) (by omega) (by omega);try push_cast at xK
     have HP6:=AA hp;obtain⟨c0',c1'⟩:=HC.out _ hp;clear hp;go_wp2;go_roundw
     case rel=>exact⟨2*r+1,by go_num,by omega,HP6⟩
     case measure=>simp[intOf];omega
  ·have d1:decide ((hi:Int)<=2*(r:Int)+1)=true:=by simp;omega
   go_wp2
   first
    |go_end0
    |refine bodyPost_ret (results_none rfl _ _ _) rfl ?_
   exact⟨rfl,xt.out _ HP.out⟩
end
end
section
open Go.Shelf
def I0:Ren:=
{
 f:=fun x=>
  match x with
  |6=>116
  |10=>120
  |11=>121
  |12=>123
  |13=>168
  |14=>169
  |24=>227
  |25=>228
  |26=>179
  |27=>229
  |28=>230
  |29=>231
  |30=>232
  |31=>233
  |32=>234
  |33=>235
  |34=>267
  |35=>268
  |36=>269
  |37=>270
  |38=>271
  |39=>279
  |n=>n,
 t:=fun x=>
  match x with
  |20=>20
  |26=>147
  |35=>184
  |0=>0
  |37=>186
  |3=>3
  |41=>53
  |44=>190
  |49=>130
  |51=>55
  |4=>4
  |54=>272
  |53=>271
  |58=>252
  |5=>5
  |9=>9
  |60=>297
  |64=>301
  |66=>307
  |67=>308
  |17=>17
  |32=>181
  |33=>182
  |82=>323
  |12=>12
  |75=>316
  |76=>317
  |77=>318
  |78=>319
  |79=>320
  |80=>321
  |n=>n,
 g:=fun n=>n}
theorem Gs:LaysGg.n6 prog I0 where
 mixed:=by kernel_rfl
 f6:=Eq.trans func116 (by kernel_rfl)
 f10:=Eq.trans func120 (by kernel_rfl)
 f11:=Eq.trans func121 (by kernel_rfl)
 f12:=Eq.trans func123 (by kernel_rfl)
 f13:=Eq.trans func168 (by kernel_rfl)
 f14:=Eq.trans func169 (by kernel_rfl)
 f24:=Eq.trans func227 (by kernel_rfl)
 f25:=Eq.trans func228 (by kernel_rfl)
 f26:=Eq.trans func179 (by kernel_rfl)
 f27:=Eq.trans func229 (by kernel_rfl)
 f28:=Eq.trans func230 (by kernel_rfl)
 f29:=Eq.trans func231 (by kernel_rfl)
 f30:=Eq.trans func232 (by kernel_rfl)
 f31:=Eq.trans func233 (by kernel_rfl)
 f32:=Eq.trans func234 (by kernel_rfl)
 f33:=Eq.trans func235 (by kernel_rfl)
 f34:=Eq.trans func267 (by kernel_rfl)
 f35:=Eq.trans func268 (by kernel_rfl)
 f36:=Eq.trans func269 (by kernel_rfl)
 f37:=Eq.trans func270 (by kernel_rfl)
 f38:=Eq.trans func271 (by kernel_rfl)
 f39:=Eq.trans func279 (by kernel_rfl)
 t0:=underlying0
 a0:=isAgg0
 z0:=sizeOf0
 v0:=zeroValue0
 i0:=by kernel_rfl
 t3:=underlying3
 a3:=isAgg3
 z3:=sizeOf3
 v3:=zeroValue3
 i3:=by kernel_rfl
 t4:=underlying4
 a4:=isAgg4
 z4:=sizeOf4
 v4:=zeroValue4
 i4:=by kernel_rfl
 t5:=underlying5
 a5:=isAgg5
 z5:=sizeOf5
 v5:=zeroValue5
 i5:=by kernel_rfl
 t9:=underlying9
 a9:=isAgg9
 z9:=sizeOf9
 v9:=zeroValue9
 i9:=by kernel_rfl
 t12:=underlying12
 a12:=isAgg12
 z12:=sizeOf12
 v12:=zeroValue12
 i12:=by kernel_rfl
 t17:=underlying17
 a17:=isAgg17
 z17:=sizeOf17
 v17:=zeroValue17
 i17:=by kernel_rfl
 t20:=underlying20
 a20:=isAgg20
 z20:=sizeOf20
 v20:=zeroValue20
 i20:=by kernel_rfl
 t26:=underlying147
 a26:=isAgg147
 z26:=sizeOf147
 v26:=zeroValue147
 i26:=by kernel_rfl
 t32:=underlying181
 a32:=isAgg181
 z32:=sizeOf181
 v32:=zeroValue181
 i32:=by kernel_rfl
 t33:=underlying182
 a33:=isAgg182
 z33:=sizeOf182
 v33:=zeroValue182
 i33:=by kernel_rfl
 t35:=underlying184
 a35:=isAgg184
 z35:=sizeOf184
 v35:=zeroValue184
 i35:=by kernel_rfl
 t37:=underlying186
 a37:=isAgg186
 z37:=sizeOf186
 v37:=zeroValue186
 i37:=by kernel_rfl
 t41:=underlying53
 a41:=isAgg53
 z41:=sizeOf53
 v41:=zeroValue53
 i41:=by kernel_rfl
 t44:=underlying190
 a44:=isAgg190
 z44:=sizeOf190
 v44:=zeroValue190
 i44:=by kernel_rfl
 t49:=underlying130
 a49:=isAgg130
 z49:=sizeOf130
 v49:=zeroValue130
 i49:=by kernel_rfl
 t51:=underlying55
 a51:=isAgg55
 z51:=sizeOf55
 v51:=zeroValue55
 i51:=by kernel_rfl
 t53:=underlying271
 a53:=isAgg271
 z53:=sizeOf271
 v53:=zeroValue271
 i53:=by kernel_rfl
 t54:=underlying272
 a54:=isAgg272
 z54:=sizeOf272
 v54:=zeroValue272
 i54:=by kernel_rfl
 t58:=underlying252
 a58:=isAgg252
 z58:=sizeOf252
 v58:=zeroValue252
 i58:=by kernel_rfl
 t60:=underlying297
 a60:=isAgg297
 z60:=sizeOf297
 v60:=zeroValue297
 i60:=by kernel_rfl
 t64:=underlying301
 a64:=isAgg301
 z64:=sizeOf301
 v64:=zeroValue301
 i64:=by kernel_rfl
 t66:=underlying307
 a66:=isAgg307
 z66:=sizeOf307
 v66:=zeroValue307
 i66:=by kernel_rfl
 t67:=underlying308
 a67:=isAgg308
 z67:=sizeOf308
 v67:=zeroValue308
 i67:=by kernel_rfl
 t75:=underlying316
 a75:=isAgg316
 z75:=sizeOf316
 v75:=zeroValue316
 i75:=by kernel_rfl
 t76:=underlying317
 a76:=isAgg317
 z76:=sizeOf317
 v76:=zeroValue317
 i76:=by kernel_rfl
 t77:=underlying318
 a77:=isAgg318
 z77:=sizeOf318
 v77:=zeroValue318
 i77:=by kernel_rfl
 t78:=underlying319
 a78:=isAgg319
 z78:=sizeOf319
 v78:=zeroValue319
 i78:=by kernel_rfl
 t79:=underlying320
 a79:=isAgg320
 z79:=sizeOf320
 v79:=zeroValue320
 i79:=by kernel_rfl
 t80:=underlying321
 a80:=isAgg321
 z80:=sizeOf321
 v80:=zeroValue321
 i80:=by kernel_rfl
 t82:=underlying323
 a82:=isAgg323
 z82:=sizeOf323
 v82:=zeroValue323
 i82:=by kernel_rfl
end
section
open Go.RowKit Go.Shelf Go.Sort
theorem Qi{α:Type}(l:List α)(i j:Nat)(hij:i<j)(hj:j<l.length):∃(P M S:List α) (x y:α),l=P++x::(M++y::S)/\P.length=i/\P.length+1+M.length=j:=by
 have e1:l.drop i=l[i]::l.drop (i+1):=List.drop_eq_getElem_cons _;have e3:(l.drop (i+1)).drop (j-i-1)=l[j]::l.drop (j+1):=by
  rw[List.drop_drop,show i+1+(j-i-1)=j from by omega];exact List.drop_eq_getElem_cons _
 refine⟨l.take i,(l.drop (i+1)).take (j-i-1),l.drop (j+1),l[i],l[j],?_,by simp;omega,by simp;omega⟩;rw[<-e3,Aj,<-e1,Aj]
theorem OH{α:Type}(l:List α)(i j:Nat)(hi:i<l.length)(hj:j<l.length):(CV l i j).Perm l:=by
 have key:∀(l:List α) (i j:Nat),i<j->j<l.length->(CV l i j).Perm l:=fun l i j hij hj=>by
  obtain⟨P,M,S,x,y,e,h1,h2⟩:=Qi l i j hij hj;rw[e,<-h2,<-h1,GU];refine List.Perm.append_left P ?_;exact((List.perm_middle).cons y).trans ((List.Perm.swap x y _).trans ((List.perm_middle).symm.cons x))
 rcases Nat.lt_trichotomy i j with h|h|h
 ·exact key l i j h hj
 ·subst h;unfold CV;rw[AE hi];simp
 ·rw[KD];exact key l j i h hi
section
variable {α:Type}[Inhabited α](n cap:Nat)
structure Lit (enc:α->List Value)(m:Nat)(e:TypeId)(f:Nat)(gS:Bool):Prop where
 hx:∀args W,(callFunc f args).run prog W=((Extern.ReflectliteSwapper.swap gS args).run prog W).andThen fun v w'=>.ok (.value v) w'
 ie:∃ie:TypeInfo,prog.info? e=some ie/\ie.size=m
 agg:∀w,(isAgg e).run prog w= .ok true w
 len:∀x,(enc x).length=m
 one:∀x,∀v∈enc x,v.oneCell'=true
omit [Inhabited α]in
theorem Lz{enc:α->List Value}{m g:Nat}{e:TypeId}{f:Nat}{gS:Bool}(H:Lit enc m e f gS)(W:World)(l:List α)(i j:Nat)(hi:i<l.length)(hj:j<l.length)(hin:i<n)(hjn:j<n)(xH:∀(k u:Nat) (z:α) (v:Value),l[k]? =some z->(enc z)[u]? =some v->W.cell? ⟨g,0+k*m+u,none⟩=some v)(hfr:∀k,k<l.length->∀u,u<m->W.frozen? ⟨g,0+k*m+u,none⟩=false):(callFunc f (#[.int .i64 (i:Int),.int .i64 (j:Int)]++#[.slice (some ⟨g,0,none⟩) n cap,typeHandle prog e])).run prog W= .ok (.value (.tuple #[])) ((W.setCells g (0+i*m) (enc l[j])).setCells g (0+j*m) (enc l[i])):=by
 obtain⟨ie,hie,hsz⟩:=H.ie;subst hsz;have xK:=Lib.run_swap_cells (P:=prog) gS e ie hie H.agg g 0 n cap i j hin hjn (enc l[i]) (enc l[j]) (H.len _) (H.len _) (H.one _) (H.one _) W (fun u v hv=>xH i u _ v (AE hi) hv) (fun u v hv=>xH j u _ v (AE hj) hv)
  (fun u hu=>hfr i hi u hu) (fun u hu=>hfr j hj u hu)
 rw[H.hx,show(#[Value.int .i64 (i:Int),Value.int .i64 (j:Int)]++#[Value.slice (some ⟨g,0,none⟩) n cap,typeHandle prog e])=#[.int .i64 i,.int .i64 j,.slice (some ⟨g,0,none⟩) n cap,typeHandle prog e]from rfl,xK];rfl
omit [Inhabited α]in
theorem EP{c:Bc α}{m:Nat}{t:TypeId}{g:Nat}{W:World}{l:List α}(hm:∀x,(c.enc x).length=m)(hb:Blk W g t (l.flatMap c.enc++c.tail).toArray)(k u:Nat)(z:α)(v:Value)(hz:l[k]? =some z)(hv:(c.enc z)[u]? =some v):W.cell? ⟨g,0+k*m+u,none⟩=some v:=by
 have hu:u<m:=by rw[<-hm z];exact(AF.1 hv).1
 have h1:=CN c.enc m l (fun x _=>hm x) k u z hz hu;rw[hv]at h1;rw[hb.cell,Nat.zero_add,List.getElem?_toArray,List.getElem?_append_left (AF.1 h1).1,h1]
omit [Inhabited α]in
theorem IH{c:Bc α}{m:Nat}{t:TypeId}{g:Nat}{W:World}{l:List α}(hm:∀x,(c.enc x).length=m)(hb:Blk W g t (l.flatMap c.enc++c.tail).toArray)(i:Nat)(x:α)(hi:i<l.length):Blk (W.setCells g (i*m) (c.enc x)) g t ((l.set i x).flatMap c.enc++c.tail).toArray/\W.grownBy (W.setCells g (i*m) (c.enc x)) (some g):=by
 have xQ:=AY c.enc m l (fun x _=>hm x);have bi:i*m+m<=l.length*m:=by
  have:=Nat.mul_le_mul_right m (show i+1<=l.length by omega);rwa[Nat.succ_mul]at this
 obtain⟨b1,k1⟩:=DS g t (c.enc x) (i*m) W _ hb (by rw[hm,AI,xQ];omega);refine⟨?_,k1⟩;rw[hm,List.take_append_of_le_length (by rw[xQ];omega),List.drop_append_of_le_length (by rw[xQ];omega),<-List.append_assoc,<-IF c.enc m l (fun x _=>hm x) i x hi]at b1;exact b1
omit [Inhabited α]in
theorem I1{c:Bc α}{m g:Nat}{e:TypeId}{f:Nat}{gS:Bool}(H:Lit c.enc m e f gS)(t:TypeId)(w0:World):Pa c t w0 g n f #[.slice (some ⟨g,0,none⟩) n cap,typeHandle prog e]:=by
 intro W l i j hr hn hi hj _;have hi':i<l.length:=by omega
 have hj':j<l.length:=by omega
 have hm:=H.len;have xK:=Lz (g:=g) (n:=n) (cap:=cap) H W l i j hi' hj' hi hj (fun k u z v=>EP hm hr.blk k u z v) (fun k _ u _=>hr.blk.frozen _);obtain⟨b1,k1⟩:=IH hm hr.blk i l[j] hi';obtain⟨b2,k2⟩:=IH hm b1 j l[i] (by rw[List.length_set];exact hj');refine⟨_,by rw[xK,Nat.zero_add,Nat.zero_add],CV l i j,OH l i j hi' hj',?_,k1.trans k2⟩;unfold CV;rw[AE hi',AE hj'];exact b2
/-! ### The kit's row and ours -/
theorem Pb{enc:α->List Value}{m:Nat}(hm:∀x,(enc x).length=m)(hm0:0<m)(l:List α):flatK enc m l.toArray=(l.flatMap enc).toArray:=by
 have hl:=AY enc m l (fun x _=>hm x);refine ext_get! (by simp[hl]) fun u hu=>?_
 have hu':u<l.toArray.size*m:=by simpa using hu
 rw[get_flatK enc m l.toArray u hu'];have h1:u/m<l.length:=by
  rw[Nat.div_lt_iff_lt_mul hm0];simpa using hu'
 have h2:u%m<m:=Nat.mod_lt _ hm0;have h3:=CN enc m l (fun x _=>hm x) (u/m) (u%m) l[u/m] (AE h1) h2;rw[Nat.div_add_mod' u m]at h3;have hu2:u<(l.flatMap enc).length:=by rw[hl];simpa using hu'
 rw[AE hu2,AE (by rw[hm];exact h2)]at h3;rw[getElem!_pos l.toArray (u/m) (by simpa using h1),getElem!_pos (l.flatMap enc).toArray u (by simpa using hu2)];simp only[List.getElem_toArray];rw[getElem!_pos (enc l[u/m]) (u%m) (by rw[hm];exact h2)];exact(Option.some.inj h3).symm
theorem Sc{c:Bc α}{m:Nat}(hm:∀x,(c.enc x).length=m)(hm0:0<m){W:World}{g:Nat}{t:TypeId}{l:List α}(hb:Blk W g t (l.flatMap c.enc++c.tail).toArray):HoldsK c.enc m W g 0 l.toArray:=by
 intro u hu;rw[Pb hm hm0]at hu ⊢;refine⟨?_,hb.frozen _⟩;have hu2:u<(l.flatMap c.enc).length:=by simpa using hu
 rw[hb.cell,Nat.zero_add,getElem!_pos (l.flatMap c.enc).toArray u hu,List.getElem?_toArray,List.getElem?_append_left hu2,AE hu2];rfl
theorem Kh{c:Bc α}{m:Nat}(hm:∀x,(c.enc x).length=m)(hm0:0<m){W:World}{g:Nat}{t:TypeId}{l l':List α}(hb:Blk W g t (l.flatMap c.enc++c.tail).toArray)(hl:l'.length=l.length)(k:Nat)(os:Array Obj):Bv c t W g l' (sortWorldK c.enc m W g 0 k l'.toArray os):=by
 have e:(l'.flatMap c.enc).length=(l.flatMap c.enc).length:=by rw[AY c.enc m l' (fun x _=>hm x),AY c.enc m l (fun x _=>hm x),hl]
 unfold sortWorldK putRowK;rw[Pb hm hm0];have hg:g<W.heap.size:=hb.lt;refine⟨?_,rfl,rfl,rfl,by simp,fun i hi hne=>?_⟩
 ·show(grow (putRow id (Sort.ahead W k) g 0 (l'.flatMap c.enc).toArray) os).heap[g]? =_;rw[heap_grow_old _ _ (by simpa using hg)];have hb':W.heap[g]? =some (.cells (l.flatMap c.enc++c.tail).toArray t (0,0)):=hb;simp only[putRow,mapBlock,Sort.ahead,Array.getElem?_modify,hb',onCells,if_true,Option.map_some];congr 2;apply Array.ext
  ·simp[putCells,e]
  ·intro u h1 h2;simp only[putCells,Array.getElem_mapIdx,Nat.zero_le,true_and,Nat.zero_add,Nat.sub_zero,id,List.getElem_toArray];by_cases hu:u<(l'.flatMap c.enc).length
   ·rw[if_pos (by simpa using hu),getElem!_pos (l'.flatMap c.enc).toArray u (by simpa using hu),List.getElem_append_left hu];rfl
   ·rw[if_neg (by simpa using hu),List.getElem_append_right (by omega),List.getElem_append_right (by omega)];simp only[e]
 ·rw[heap_grow_old _ _ (by simpa using hi)];have:g≠i:=fun e=>hne (by rw[e])
  simp[putRow,mapBlock,Sort.ahead,Array.getElem?_modify,this]
def UQ(c:Bc α)(t:TypeId)(w0:World)(g n f F:Nat)(sb lb:Array Value)(l0:List α):Prop:=
 ∀(a b:Nat) (w:World),Az c t g l0 w0 w->a+12<b->b<=n->
  Calls prog 230 #[.agg #[.func (.func F) #[] lb,.func (.func f) #[] sb],.int .i64 (a:Int),.int .i64 (b:Int)] w fun e w'=>e= .returned (.tuple #[])/\Az c t g l0 w w'
theorem Pd{c:Bc α}{m g:Nat}{e:TypeId}{f:Nat}{gS:Bool}(H:Lit c.enc m e f gS)(hm0:0<m)(t:TypeId)(w0:World)(F:Nat)(lb:Array Value)(l0:List α)(hn:l0.length=n)(hsm:n<=1000000):UQ c t w0 g n f F #[.slice (some ⟨g,0,none⟩) n cap,typeHandle prog e] lb l0:=by
 intro a b w hw hab' hb;have hab:a<=b:=by omega
 obtain⟨l,h1,h2⟩:=hw;have hl:l.length=n:=h2.length_eq.trans hn;have hm:=H.len;have hS:SwapSwapsK prog f #[.slice (some ⟨g,0,none⟩) n cap,typeHandle prog e] c.enc m g 0 l.toArray.size:=by
  intro W dk hk hs i j hi hj;simp only[List.size_toArray]at hs hi hj;have hi':i<dk.toList.length:=by simpa[hs]using hi
  have hj':j<dk.toList.length:=by simpa[hs]using hj
  have key:∀(k u:Nat),k<dk.toList.length->u<m->W.cell? ⟨g,0+k*m+u,none⟩=(c.enc dk.toList[k]!)[u]?/\W.frozen? ⟨g,0+k*m+u,none⟩=false:=fun k u hk' hu=>by
   have hkd:k<dk.size:=by simpa using hk'
   have hlt:k*m+u<dk.size*m:=by
    have:=Nat.mul_le_mul_right m (show k+1<=dk.size by omega);rw[Nat.succ_mul]at this;omega
   have h:=hk (k*m+u) (by simpa using hlt);have hd:(k*m+u)/m=k:=by rw[Nat.add_comm,Nat.add_mul_div_right _ _ hm0,Nat.div_eq_of_lt hu,Nat.zero_add]
   have hmo:(k*m+u)%m=u:=by rw[Nat.add_comm,Nat.add_mul_mod_self_right,Nat.mod_eq_of_lt hu]
   rw[get_flatK c.enc m dk _ hlt,hd,hmo]at h;rw[Nat.add_assoc];refine⟨h.1.trans ?_,h.2⟩;have e1:dk[k]! =dk.toList[k]!:=by rw[getElem!_pos dk k hkd,getElem!_pos dk.toList k hk'];rfl
   rw[e1,getElem!_pos (c.enc dk.toList[k]!) u (by rw[hm];exact hu),AE (by rw[hm];exact hu)];rfl
  have xK:=Lz (g:=g) (n:=n) (cap:=cap) H W dk.toList i j hi' hj' (by omega) (by omega)
   (fun k u z v hz hv=>by
    have hk':=(AF.1 hz).1;have hu:u<m:=by rw[<-hm z];exact(AF.1 hv).1
    have ez:dk.toList[k]! =z:=by rw[getElem!_pos dk.toList k hk'];exact(AF.1 hz).2
    rw[(key k u hk' hu).1,ez,hv]) (fun k hk' u hu=>(key k u hk' hu).2)
  rw[xK,getElem!_pos dk j (by simpa using hj'),getElem!_pos dk i (by simpa using hi')];rfl
 have hH:HoldsK c.enc m w g 0 l.toArray:=Sc hm hm0 h1.blk;refine(Any.breakPatterns_func_cells_w {Gs with} c.enc m hm (.func F) #[] lb f #[.slice (some ⟨g,0,none⟩) n cap,typeHandle prog e] g 0 a b l.toArray w hS hH h1.blk.lt hab (by simp;omega) (by simp;omega)).mono ?_;rintro e w' ⟨rfl,k,os,rfl⟩;have hp:=breakPatterns_holds l.toArray a b hab (by simp;omega);refine⟨rfl,(breakPatterns l.toArray a b).toList,?_,?_⟩
 ·have hsz:(breakPatterns l.toArray a b).toList.length=l.length:=by
   have:=hp.1;simpa using this
  have:=Kh hm hm0 h1.blk hsz k os;simpa using this
 ·have hq:=permIn_mono l.toArray (breakPatterns l.toArray a b) a b 0 l.toArray.size (Nat.zero_le _) (by simp;omega) (AB _) hp;have h3:=hq.2.2;rw[Array.extract_size,<-hq.1,Array.extract_size]at h3;exact h3.trans h2
end
end
section
open Go.RowKit
structure Ev where
 a:Sg
 b:Sg
namespace Ev
def cells(e:Ev):Array Value:=e.a.cells++e.b.cells
abbrev val(e:Ev):Value:=.agg e.cells
theorem size_cells(e:Ev):e.cells.size=46:=by simp[cells,Sg.size_cells]
end Ev
def sgn(e:Ev):Int:=e.a.vote.signer
theorem Sg.one(s:Sg):∀u∈s.cells.toList,u.oneCell'=true:=by
 intro u hu;simp[Sg.cells]at hu;rcases hu with h|h|h|h|h|h|h|h|h|h|h|h|h|h|h|h|h|h|h|h|h|h|h <;> subst h <;> rfl
theorem Ba{w w':World}{base e size n:Nat}{row:Option Nat}{v:Value}{xs:List Value}(h:w.ownsRow base e size v n xs)(hg:w.grownBy w' row)(hr:∀k,row=some k->w.heap.size<=k∨v.ownBlock≠some k):w'.ownsRow base e size v n xs:=by
 refine⟨h.1,?_⟩;rcases h.2 with h2|⟨g,cap,cur,rfl,h1,hh,r⟩
 ·exact .inl h2
 ·refine .inr ⟨g,cap,cur,rfl,h1,(hg.block g (lt_of_block hh) ?_).trans hh,r⟩;intro e;rcases hr g e.symm with h3|h3
  ·have:=lt_of_block hh;omega
  ·exact h3 rfl
abbrev Ai:Array Value:=#[.int .i64 0,.int .i64 0,.int .i64 0,.int .i64 0,.int .i64 0,.int .i64 0,.int .u8 0,.int .u8 0,.int .u8 0,.int .u8 0,.int .u8 0,.int .u8 0,.int .u8 0,.int .u8 0,.int .u8 0,.int .u8 0,.int .u8 0,.int .u8 0,.int .u8 0,.int .u8 0,.int .u8 0,.int .u8 0]
theorem BH{u:Value}(v:Vt)(h:u∈v.cells.toList):u.oneCell'=true:=by
 simp at h;rcases h with rfl|rfl|rfl|rfl|rfl|rfl|rfl|rfl|rfl|rfl|rfl|rfl|rfl|rfl|rfl|rfl|rfl|rfl|rfl|rfl|rfl|rfl <;> rfl
theorem II{P:Program}{w:World}{o:Oper}{a:Act}{K:Act->World->Prop}{Q:Exit->Act->World->Prop}(d:Option Tmp)(hd:o.dst=d)(s x:Operand)(t:TypeId)(ho:o.op= .call {callee:=.builtin .append,args:=#[s,x],argTypes:=#[t,t]})
  (base:Nat) (e:TypeId) (z:Value) (size bytes:Nat) (ht:P.underlying t=some (.slice e)) (hi:(P.info? e).map (fun i=>(i.zero,i.size,i.bytes))=some (some z,size,bytes)) (hzs:z.cells.size=size) (hsz:0<size)
  (v:Value) (n:Nat) (xs:List Value) (hs:a.eval s=v) (xB:w.ownsRow base e size v n xs)
  (B:Nat) (A:Option Addr) (m c:Nat) (news:List Value) (hx:a.eval x= .slice A m c) (hl:news.length=m*size) (hr:Rd w B A news) (h1:∀u∈news,u.oneCell'=true)
  (yn:(n+m)*bytes<=140737488355328) (h63:n+m<=maxLen) (yJ:base<=w.heap.size)
  (h:∀v' w',w'.ownsRow base e size v' (n+m) (xs++news)->w.grownBy w' v.ownBlock->(v'.ownBlock=v.ownBlock∨v'.ownBlock=some w.heap.size)->K (a.put d v') w'):
  o.wp P a w K Q:=by
 subst hd;exact UY s x t ho base e z size bytes ht hi hzs hsz v n xs hs xB B A m c news hx hl hr h1 yn h63 yJ h
theorem Rd.kept{w w':World}{B':Nat}{A:Option Addr}{xs:List Value}{row:Option Nat}(h:Rd w B' A xs)(hg:w.grownBy w' row)(hB:B'<=w.heap.size)(hne:∀p,A=some p->some p.block≠row):Rd w' B' A xs:=by
 rcases h with h|⟨b,o,rfl,hb,hc⟩
 ·exact .inl h
 ·exact .inr ⟨b,o,rfl,hb,fun j u hu=>(World.cell?_of_block (a:=⟨b,o+j,none⟩) (hg.block b (by omega) (hne _ rfl))).trans (hc j u hu)⟩
abbrev BI:Array Value:=#[.int .i64 0,.int .i64 0,.int .i64 0,.int .i64 0,.int .i64 0,.int .i64 0,.int .u8 0,.int .u8 0,.int .u8 0,.int .u8 0,.int .u8 0,.int .u8 0,.int .u8 0,.int .u8 0,.int .u8 0,.int .u8 0,.int .u8 0,.int .u8 0,.int .u8 0,.int .u8 0,.int .u8 0,.int .u8 0,.slice none 0 0]
theorem OI{u:Value}(h:u∈BI.toList):u.oneCell'=true:=by
 simp at h;rcases h with rfl|rfl|rfl <;> rfl
theorem CL{u:Value}(h:u∈Ai.toList):u.oneCell'=true:=by
 simp at h;rcases h with rfl|rfl <;> rfl
theorem Sd{u:Value}(s:Sg)(h:u∈s.cells.toList):u.oneCell'=true:=by
 unfold Sg.cells at h;rw[Array.toList_push,AP]at h;rcases h with h|h
 ·exact BH _ h
 ·simp at h;subst h;rfl
theorem DT:(prog.info? 62).map (·.size)=some 23:=by kernel_rfl
abbrev WT(v:Vt)(x:Value):Array Value:=#[I v.kind,I v.slot,I v.round,I v.choice,I v.signer,I v.support,B v.parent.b0,B v.parent.b1,B v.parent.b2,B v.parent.b3,B v.parent.b4,B v.parent.b5,B v.parent.b6,B v.parent.b7,B v.value.b0,B v.value.b1,B v.value.b2,B v.value.b3,B v.value.b4,B v.value.b5,B v.value.b6,B v.value.b7,x]
theorem OJ(v:Vt)(sig:List UInt8)(A:Option Addr)(c:Nat):(Sg.mk v sig A c).cells=WT v (.slice A sig.length c):=rfl
theorem Rd.row{w:World}{B':Nat}{b o:Nat}{l:List Nm}{k:Nat}{x:Nm}(h:Rd w B' (some ⟨b,o,none⟩) (l.flatMap nmc))(hk:l[k]? =some x):AK w b (o+k*8) 8=some x.cells:=by
 obtain⟨b',o',e,_,hc⟩:=h.name hk;injection e with e
 injection e with e1 e2
 subst e1;subst e2;exact By (fun j u hu=>hc j u (by simpa using hu)) rfl
end
section
open Go.RowKit
attribute [local go_sem ↓] Go.wp_at_zero Go.wp_at_succ Aq Au Av Aw
attribute [local go_sem] BE BL BM BN AR AX AU
theorem BQ{P:Program}{ops:Array Oper}{rest:List Oper}{o:Oper}{a:Act}{w:World}{Q:Exit->Act->World->Prop}(hg:o.guard=none)(t e:TypeId)(x:Operand)(ho:o.op= .buildSlice t 1 #[(0,x)])(cs:Array Value)(hx:a.eval x= .agg cs)(hu:P.underlying t=some (.slice e))(hi:(P.info? e).map (fun i=>(i.zero.isSome,i.size))=some (true,cs.size))(xp:0<cs.size)(hsm:cs.size<=1000)(h:wpList P ops Q rest (a.put o.dst (.slice (some ⟨w.heap.size,0,none⟩) 1 1)) (w.alloc (.cells cs e))):wpList P ops Q (o::rest) a w:=by
 cases hie:P.info? e with
 |none=>simp[hie]at hi
 |some ie=>
  simp only[hie,Option.map_some,Option.some.injEq,Prod.mk.injEq]at hi;obtain⟨hz,hsz⟩:=hi;obtain⟨z,hzz⟩:=Option.isSome_iff_exists.1 hz;refine wpList_buildSlice hg t e 1 #[(0,x)] ho cs ie z hu hie hzz (by rw[hsz];omega) (by rw[hsz];omega) ?_ h;have hf:=Great.fill_whole (s:=ie.size) (by rw[hsz];exact xp) [Value.agg cs] ((Array.range (1*ie.size)).map (z.cells[· %z.cells.size]!)) (by intro v hv;rw[AM.1 hv,hsz];rfl) (by simp);have ev:(#[(0,x)].map fun((i,x):Nat×Operand)=>(i,a.eval x)).toList=([Value.agg cs].zipIdx 0).map fun x=>(x.2,x.1):=by simp[hx]
  rw[ev,hf];simp[Value.cells]
theorem DJ:(prog.info? 62).map (fun i=>(i.zero,i.size,i.bytes))=some (some (.agg BI),23,88):=by kernel_rfl
abbrev sgc(s:Sg):List Value:=s.cells.toList
theorem C0(l:List Sg):∀s∈l,(sgc s).length=23:=fun s _=>by rw[Array.length_toList];exact s.size_cells
theorem Rd.sgRow{w:World}{B' b o:Nat}{l:List Sg}{k:Nat}{s:Sg}(h:Rd w B' (some ⟨b,o,none⟩) (l.flatMap sgc))(hk:l[k]? =some s):AK w b (o+k*23) 23=some s.cells:=by
 have xp:=(AF.1 hk).1;rcases h with h|⟨b',o',e,hb,hc⟩
 ·have:=AY sgc 23 l (C0 l);rw[h]at this;simp at this;omega
 ·injection e with e
  injection e with e1 e2
  subst e1;subst e2;refine By (fun j u hu=>?_) s.size_cells;have hj:j<23:=by
   have:=(AF.1 hu).1;rwa[Array.length_toList,s.size_cells]at this
  rw[Nat.add_assoc];refine hc _ u ?_;rw[CN sgc 23 l (C0 l) k j s hk hj,<-hu]
def IJ(w:World)(B':Nat)(l:List Sg):Prop:=∀s∈l,Jm w B' s/\UN s
end
section
open Go.RowKit
abbrev vtc(v:Vt):List Value:=v.cells.toList
theorem CI(l:List Vt):∀v∈l,(vtc v).length=22:=fun _ _=>rfl
theorem Rd.voteRow{w:World}{B' b o:Nat}{l:List Vt}{k:Nat}{v:Vt}(h:Rd w B' (some ⟨b,o,none⟩) (l.flatMap vtc))(hk:l[k]? =some v):AK w b (o+k*22) 22=some v.cells:=by
 have xp:=(AF.1 hk).1;rcases h with h|⟨b',o',e,hb,hc⟩
 ·have:=AY vtc 22 l (CI l);rw[h]at this;simp at this;omega
 ·injection e with e
  injection e with e1 e2
  subst e1;subst e2;refine By (fun j u hu=>?_) rfl;have hj:j<22:=by
   have:=(AF.1 hu).1;simpa using this
  rw[Nat.add_assoc];refine hc _ u ?_;rw[CN vtc 22 l (CI l) k j v hk hj,<-hu]
end
section
open Go.RowKit
attribute [local go_sem ↓] Go.wp_at_zero Go.wp_at_succ Aq Au Av Aw
attribute [local go_sem] BE BL BM BN AR AX AU
theorem Bv.vt{T:List Value}{w0 W:World}{g i:Nat}{l:List Vt}{x:Vt}(h:Bv ⟨vtc,T⟩ 46 w0 g l W)(hx:l[i]? =some x):AK W g (i*22) 22=some x.cells:=by
 refine By (fun j u hu=>?_) rfl;have:=EP (c:=⟨vtc,T⟩) (m:=22) (fun _=>rfl) h.blk i j x u hx (by simpa using hu);rwa[Nat.zero_add]at this
theorem OK(T:List Value)(B g n c:Nat)(l0:List Vt)(w0:World)(hB:Blk w0 B 56 #[.slice (some ⟨g,0,none⟩) n c])(hne:B≠g)(hn:l0.length=n):Fi ⟨vtc,T⟩ 46 w0 g l0 Bf 221 #[.pointer (some ⟨B,0,none⟩)]:=by
 intro W l i j x y hr hp hx hy;have hi:i<n:=by rw[<-hn,<-hp.length_eq];exact(AF.1 hx).1
 have hj:j<n:=by rw[<-hn,<-hp.length_eq];exact(AF.1 hy).1
 have hc0:W.cell? ⟨B,0,none⟩=some (.slice (some ⟨g,0,none⟩) n c):=(hr.box hB hne).cell 0;have xe:Hid (∀V,Wx W V->V.cell? ⟨B,0,none⟩=some (.slice (some ⟨g,0,none⟩) n c)/\AK V g (i*22) 22=some x.cells/\AK V g (j*22) 22=some y.cells):=
  fun V hV=>⟨(hV.cell (p:=⟨B,0,none⟩) (hr.box hB hne).lt).trans hc0,BC (hr.vt hx) hV hr.blk.lt,BC (hr.vt hy) hV hr.blk.lt⟩
 have HL:Hid (∀V,Wx W V->Calls prog 109 #[x.val,y.val] V (An V (Bf x y))):=
  fun V hV=>LE x y V
 obtain⟨r,hrr⟩:=Wr (Bf x y);rw[<-hrr]at HL ⊢;clear hrr hc0 hr hp hx hy hB hn;have hbw:Wx W W:=AC _ _;show Calls prog 221 #[.int .i64 (i:Int),.int .i64 (j:Int),.pointer (some ⟨B,0,none⟩)] W _;go_enter func221,ntmps221;go_upto_region 1 with fail
 refine rgD (fun w'=>w'.cell? ⟨B,0,none⟩=some (.slice (some ⟨g,0,none⟩) n c)/\AK w' g (i*22) 22=some x.cells/\AK w' g (j*22) 22=some y.cells) (xe.out _ hbw.drew) fun _=>?_
 iterate 8 (refine tkA ?_;go_frame)
 refine rd1 8 fun K hK=>?_
 go_simp;refine(HL.out _ hbw.drew).mono ?_;rintro en w2 ⟨rfl,hb2⟩;have xL:=hbw.drew.trans (hb2.mono hbw.size);go_wp2_with fail
 refine hK.out _ _ (xe.out _ xL) (fun _=>?_);clear hK K;try go_frame
 refine tkD 5 9 ?_;go_frame;refine dnD ?_;go_wp2;go_ret;exact⟨rfl,xL⟩
end
section
open Go.RowKit
structure Oc where
 slot:Int
 round:Int
 choice:Int
 value:Nm
 deriving DecidableEq
abbrev Oc.cells(o:Oc):Array Value:=#[I o.slot,I o.round,I o.choice,B o.value.b0,B o.value.b1,B o.value.b2,B o.value.b3,B o.value.b4,B o.value.b5,B o.value.b6,B o.value.b7]
abbrev Oc.val(o:Oc):Value:=.agg o.cells
abbrev Oc.zero:Oc:=⟨0,0,0,Nm.zero⟩
abbrev occ(o:Oc):List Value:=o.cells.toList
theorem IK(l:List Oc):∀o∈l,(occ o).length=11:=fun _ _=>rfl
theorem L3{u:Value}(o:Oc)(h:u∈o.cells.toList):u.oneCell'=true:=by
 simp at h;rcases h with rfl|rfl|rfl|rfl|rfl|rfl|rfl|rfl|rfl|rfl|rfl <;> rfl
instance:Inhabited Oc:=⟨Oc.zero⟩
theorem Pe:(prog.info? 142).map (fun i=>(i.zero,i.size,i.bytes))=some (some (.agg Oc.zero.cells),11,32):=by kernel_rfl
theorem Ij(p:Value):Instr.loadAt 142 p=CU 142 p:=rfl
theorem LG(b o:Nat)(w:World):(CU 142 (.pointer (some ⟨b,o,none⟩))).run prog w=DB 142 b o w (AK w b o 11):=CZ _ 11 b o w _ underlying142 rfl (by kernel_rfl)
theorem Rd.ocRow{w:World}{B' b o:Nat}{l:List Oc}{k:Nat}{v:Oc}(h:Rd w B' (some ⟨b,o,none⟩) (l.flatMap occ))(hk:l[k]? =some v):AK w b (o+k*11) 11=some v.cells:=by
 have xp:=(AF.1 hk).1;rcases h with h|⟨b',o',e,hb,hc⟩
 ·have:=AY occ 11 l (IK l);rw[h]at this;simp at this;omega
 ·injection e with e
  injection e with e1 e2
  subst e1;subst e2;refine By (fun j u hu=>?_) rfl;have hj:j<11:=by
   have:=(AF.1 hu).1;simpa using this
  rw[Nat.add_assoc];refine hc _ u ?_;rw[CN occ 11 l (IK l) k j v hk hj,<-hu]
theorem Oc.row_value{w:World}{g t:Nat}(v:Oc)(h:Blk w g t v.cells):AK w g 3 8=some v.value.cells:=
 Blk.part h 3 v.value.cells (fun j u hu=>by
  have hj:j<8:=(Aa.1 hu).1;rcases(by omega:j=0∨j=1∨j=2∨j=3∨j=4∨j=5∨j=6∨j=7)with rfl|rfl|rfl|rfl|rfl|rfl|rfl|rfl <;> exact hu)
theorem Wl(a b:Oc)(w:World):(Op.equal 142 a.val b.val).run prog w= .ok (decide (a=b)) w:=by
 show(Op.equalIn 10000 142 a.val b.val).run prog w=_;have u3:=underlying3;have a3:=isAgg3;have z3:=sizeOf3;have a5:=isAgg24;have z5:=sizeOf24;have hS:prog.underlying 142=some (.struct (prog.fieldsOf 142)):=by kernel_rfl
 rw[show(10000:Nat)=9999+1 from rfl,run_equalIn_agg w 9999 142 _ _ hS (by kernel_rfl)];have e6:=fun w=>EW a.value b.value w 9997
 simp only[Program.fieldsOf,underlying142];go_simp;rw[Ez]
 iterate 2 rw[FN w rfl]
 refine FN w ?_;cases a;cases b;simp
theorem KF(b:Bool)(d:Nat)(k:Nm)(w:World):(Instr.checkKey b (d+2) 24 k.val).run prog w= .ok () w:=by
 have a3:=isAgg5;have z3:=sizeOf5;have hi:=fun n w=>ND b d n w
 rw[Instr.checkKey];simp only[Sem.run_bind,run_underlying underlying24,Result.andThen_ok];simp only[Std.Legacy.Range.forIn_eq_forIn_range',Std.Legacy.Range.size,Nat.sub_zero,Nat.add_sub_cancel,Nat.div_one,List.range'_succ,List.range'_zero,List.forIn_cons,List.forIn_nil];go_simp
theorem UG(b:Bool)(k:Oc)(w:World):(Instr.checkKey b 10000 142 k.val).run prog w= .ok () w:=by
 have a3:=isAgg3;have z3:=sizeOf3;have hi:=fun n w=>IT b 9998 n w
 have a5:=isAgg24;have z5:=sizeOf24;have e6:=fun w=>KF b 9997 k.value w
 rw[Instr.checkKey];simp only[Sem.run_bind,run_underlying underlying142,Result.andThen_ok];go_simp
theorem UR:Fd prog 142 Oc.val where
 desc:=⟨_,underlying142,fun _ _=>rfl⟩
 check:=UG
 eq:=Wl
 bits k:=G7 9999 _ (by intro v hv;simp at hv;rcases hv with rfl|rfl|rfl|rfl|rfl|rfl|rfl|rfl|rfl|rfl|rfl <;> simp[Instr.sameBits])
attribute [local go_sem ↓] Go.wp_at_zero Go.wp_at_succ Aq Au Av Aw Ij
attribute [local go_sem] BE BL BM BN LG AR AX AU
def My(a b:Oc):Bool:=if a.round≠b.round then decide (a.round<b.round)else if a.choice≠b.choice then decide (a.choice<b.choice)else Dc a.value b.value
theorem OL(a b:Oc)(w:World):Calls prog 118 #[a.val,b.val] w (An w (My a b)):=by
 have hA:Blk ((w.alloc (Obj.cells a.cells 142)).alloc (Obj.cells b.cells 142)) w.heap.size 142 a.cells:=(Blk.new w _ _).alloc _;have hB:Blk ((w.alloc (Obj.cells a.cells 142)).alloc (Obj.cells b.cells 142)) (w.heap.size+1) 142 b.cells:=by
  have:=Blk.new (w.alloc (Obj.cells a.cells 142)) 142 b.cells;simpa using this
 obtain⟨W,hW⟩:=Wr ((w.alloc (Obj.cells a.cells 142)).alloc (Obj.cells b.cells 142));have hbW:Wx w W:=by rw[hW];exact((AC _ _).alloc (AB _) _).alloc (by simp) _
 rw[<-hW]at hA hB;have x0:=a.row_value hA;have y0:=b.row_value hB;have x1:W.cell? ⟨w.heap.size,1,none⟩=some (I a.round):=hA.cell 1;have x2:W.cell? ⟨w.heap.size,2,none⟩=some (I a.choice):=hA.cell 2;have y1:W.cell? ⟨w.heap.size+1,1,none⟩=some (I b.round):=hB.cell 1;have y2:W.cell? ⟨w.heap.size+1,2,none⟩=some (I b.choice):=hB.cell 2;have HW:=AA hW;obtain⟨r,hr⟩:=Wr (My a b);rw[<-hr];have HL:=AA (fun V=>FD a.value b.value V);clear hA hB hW;by_cases h1:a.round=b.round
 ·by_cases h2:a.choice=b.choice
  ·have hr':r=Dc a.value b.value:=by rw[hr];unfold My;rw[if_neg (fun h=>h h1),if_neg (fun h=>h h2)]
   have n1:(a.round !=b.round)=false:=by rw[h1];exact bne_self_eq_false _
   have n2:(a.choice !=b.choice)=false:=by rw[h2];exact bne_self_eq_false _
   rw[<-hr']at HL;clear hr hr' h1 h2;go_enter func118,ntmps118;go_upto_region 1 with fail
   simp only[<-HW.out];go_wp2_with fail
   refine(HL.out _).mono ?_;rintro en w2 ⟨rfl,hb2⟩;go_wp2;go_ret;exact⟨rfl,hbW.trans (hb2.mono hbW.size)⟩
  ·have hr':r=decide (a.choice<b.choice):=by rw[hr];unfold My;rw[if_neg (fun h=>h h1),if_pos h2]
   have n1:(a.round !=b.round)=false:=by rw[h1];exact bne_self_eq_false _
   have n2:(a.choice !=b.choice)=true:=by simpa using h2
   have HR:=AA hr';clear hr hr' h1 h2;go_enter func118,ntmps118;go_upto_region 1 with fail
   simp only[<-HW.out];go_wp2;go_ret;exact⟨by rw[HR.out];rfl,hbW⟩
 ·have hr':r=decide (a.round<b.round):=by rw[hr];unfold My;rw[if_pos h1]
  have n1:(a.round !=b.round)=true:=by simpa using h1
  have HR:=AA hr';clear hr hr' h1;go_enter func118,ntmps118;go_upto_region 1 with fail
  simp only[<-HW.out];go_wp2;go_ret;exact⟨by rw[HR.out];rfl,hbW⟩
structure Vl where
 choice:Int
 name:Nm
 deriving DecidableEq
abbrev Vl.cells(o:Vl):Array Value:=#[I o.choice,B o.name.b0,B o.name.b1,B o.name.b2,B o.name.b3,B o.name.b4,B o.name.b5,B o.name.b6,B o.name.b7]
abbrev Vl.val(o:Vl):Value:=.agg o.cells
abbrev Vl.zero:Vl:=⟨0,Nm.zero⟩
abbrev Cb:Array Value:=#[.int .i64 0,.int .u8 0,.int .u8 0,.int .u8 0,.int .u8 0,.int .u8 0,.int .u8 0,.int .u8 0,.int .u8 0]
theorem CS:(prog.info? 258).map (·.size)=some 9:=by kernel_rfl
abbrev vlc(o:Vl):List Value:=o.cells.toList
theorem FV(l:List Vl):∀o∈l,(vlc o).length=9:=fun _ _=>rfl
theorem EQ{u:Value}(o:Vl)(h:u∈o.cells.toList):u.oneCell'=true:=by
 simp at h;rcases h with rfl|rfl|rfl|rfl|rfl|rfl|rfl|rfl|rfl <;> rfl
def Bh(v:Vt):Vl:=⟨v.choice,v.value⟩
theorem UH:(prog.info? 258).map (fun i=>(i.zero,i.size,i.bytes))=some (some (.agg Vl.zero.cells),9,16):=by kernel_rfl
theorem Dl(p:Value):Instr.loadAt 258 p=CU 258 p:=rfl
theorem FE(b o:Nat)(w:World):(CU 258 (.pointer (some ⟨b,o,none⟩))).run prog w=DB 258 b o w (AK w b o 9):=CZ _ 9 b o w _ underlying258 rfl (by kernel_rfl)
theorem Rd.vlRow{w:World}{B' b o:Nat}{l:List Vl}{k:Nat}{v:Vl}(h:Rd w B' (some ⟨b,o,none⟩) (l.flatMap vlc))(hk:l[k]? =some v):AK w b (o+k*9) 9=some v.cells:=by
 have xp:=(AF.1 hk).1;rcases h with h|⟨b',o',e,hb,hc⟩
 ·have:=AY vlc 9 l (FV l);rw[h]at this;simp at this;omega
 ·injection e with e
  injection e with e1 e2
  subst e1;subst e2;refine By (fun j u hu=>?_) rfl;have hj:j<9:=by
   have:=(AF.1 hu).1;simpa using this
  rw[Nat.add_assoc];refine hc _ u ?_;rw[CN vlc 9 l (FV l) k j v hk hj,<-hu]
theorem Vl.row_name{w:World}{g t:Nat}(v:Vl)(h:Blk w g t v.cells):AK w g 1 8=some v.name.cells:=
 Blk.part h 1 v.name.cells (fun j u hu=>by
  have hj:j<8:=(Aa.1 hu).1;rcases(by omega:j=0∨j=1∨j=2∨j=3∨j=4∨j=5∨j=6∨j=7)with rfl|rfl|rfl|rfl|rfl|rfl|rfl|rfl <;> exact hu)
theorem VZ(a b:Vl)(w:World):(Op.equalIn 10000 258 a.val b.val).run prog w= .ok (decide (a=b)) w:=by
 have u3:=underlying3;have a3:=isAgg3;have z3:=sizeOf3;have a5:=isAgg24;have z5:=sizeOf24;have hS:prog.underlying 258=some (.struct (prog.fieldsOf 258)):=by kernel_rfl
 rw[show(10000:Nat)=9999+1 from rfl,run_equalIn_agg w 9999 258 _ _ hS (by kernel_rfl)];have e6:=fun w=>EW a.name b.name w 9997
 simp only[Program.fieldsOf,underlying258];go_simp;rw[Ez];refine FN w ?_;cases a;cases b;simp
theorem UI(b:Bool)(k:Vl)(w:World):(Instr.checkKey b 10000 258 k.val).run prog w= .ok () w:=by
 have a3:=isAgg3;have z3:=sizeOf3;have hi:=fun n w=>IT b 9998 n w
 have a5:=isAgg24;have z5:=sizeOf24;have e6:=fun w=>KF b 9997 k.name w
 rw[Instr.checkKey];simp only[Sem.run_bind,run_underlying underlying258,Result.andThen_ok];go_simp
theorem WU:Fd prog 258 Vl.val where
 desc:=⟨_,underlying258,fun _ _=>rfl⟩
 check:=UI
 eq a b w:=VZ a b w
 bits k:=G7 9999 _ (by intro v hv;simp at hv;rcases hv with rfl|rfl|rfl|rfl|rfl|rfl|rfl|rfl|rfl <;> simp[Instr.sameBits])
attribute [local go_sem ↓] Go.wp_at_zero Go.wp_at_succ Aq Au Av Aw Dl
attribute [local go_sem] BE BL BM BN FE AR AX AU
theorem F5{o:Oper}{a:Act}(c:Int)(v:Nm)(x0 x1:Operand)(ho:o.op= .build 258 #[(0,x0),(1,x1)])(h0:a.eval x0=I c)(h1:a.eval x1= .agg v.cells)(w:World):(execOp a.eval o).run prog w= .ok (.value (Vl.mk c v).val) w:=by
 unfold execOp;rw[ho];simp only[List.map_toArray,List.map_cons,List.map_nil,h0,h1];go_simp
theorem KG(v:Vt)(w:World):Calls prog 213 #[v.val] w fun e w'=>e= .returned (Bh v).val/\Wx w w':=by
 obtain⟨W1,hW1⟩:=Wr (w.alloc (Obj.cells v.cells 46));have hb1:Wx w W1:=by rw[hW1];exact(AC _ _).alloc (AB _) _
 have hB1:Blk W1 w.heap.size 46 v.cells:=by rw[hW1];exact Blk.new _ _ _
 obtain⟨q,hq⟩:=Wr w.heap.size;have hs1:W1.heap.size=w.heap.size+1:=by rw[hW1];simp
 obtain⟨z,hzz⟩:=Wr (w.heap.size+1);obtain⟨W2,hW2⟩:=Wr (W1.alloc (Obj.cells Cb 258));have hb2:Wx w W2:=by rw[hW2];exact hb1.alloc hb1.size _
 have hB2:Blk W2 q 46 v.cells:=by rw[hW2,hq];exact hB1.alloc _
 have x0:W2.cell? ⟨q,3,none⟩=some (I v.choice):=hB2.cell 3;have x1:=v.row_value hB2;have hz:Blk W2 z 258 Cb:=by rw[hW2,hzz,<-hs1];exact Blk.new _ _ _
 have hzw:w.heap.size<=z:=by omega
 have HW1:=AA hW1;have HW2:=AA hW2;have HZ:=AA hzz;have HQ:=AA hq;have HB2:=AA hz;clear hW1 hW2 hB1 hB2 hzz hq hz hs1;go_enter func213,ntmps213;go_upto_region 1 with fail
 simp only[<-HW1.out,<-HW2.out,<-HZ.out];simp only[<-HQ.out];go_wp2_with (first
  |(refine Great.wpList_readTo rfl (some 7) rfl (Bh v).val (F5 v.choice v.value (.tmp 4) (.tmp 6) rfl rfl rfl _) ?_)
  |(refine AJ rfl 258 (.tmp 2) (.tmp 7) rfl z (Bh v).cells rfl rfl 258 Cb HB2.out rfl CS (fun u hu=>EQ _ hu) ?_;intro w5 hR5 hg5 yi))
 refine bodyPost_ret (results_cell_row (g:=z) (cs:=(Bh v).cells) rfl _ _ _ _ _ rfl hR5 underlying258 rfl CS) rfl ⟨rfl,?_⟩;exact hb2.grown hg5 hb2.size (Wt hzw)
def DG(a b:Vl):Bool:=if a.choice≠b.choice then decide (a.choice<b.choice)else Dc a.name b.name
theorem OM(a b:Vl)(w:World):Calls prog 252 #[a.val,b.val] w (An w (DG a b)):=by
 have hA:Blk ((w.alloc (Obj.cells a.cells 258)).alloc (Obj.cells b.cells 258)) w.heap.size 258 a.cells:=(Blk.new w _ _).alloc _;have hB:Blk ((w.alloc (Obj.cells a.cells 258)).alloc (Obj.cells b.cells 258)) (w.heap.size+1) 258 b.cells:=by
  have:=Blk.new (w.alloc (Obj.cells a.cells 258)) 258 b.cells;simpa using this
 obtain⟨W,hW⟩:=Wr ((w.alloc (Obj.cells a.cells 258)).alloc (Obj.cells b.cells 258));have hbW:Wx w W:=by rw[hW];exact((AC _ _).alloc (AB _) _).alloc (by simp) _
 rw[<-hW]at hA hB;have x0:=a.row_name hA;have y0:=b.row_name hB;have x1:W.cell? ⟨w.heap.size,0,none⟩=some (I a.choice):=hA.cell 0;have y1:W.cell? ⟨w.heap.size+1,0,none⟩=some (I b.choice):=hB.cell 0;have HW:=AA hW;obtain⟨r,hr⟩:=Wr (DG a b);rw[<-hr];have HL:=AA (fun V=>FD a.name b.name V);clear hA hB hW;by_cases h1:a.choice=b.choice
 ·have hr':r=Dc a.name b.name:=by rw[hr];unfold DG;rw[if_neg (fun h=>h h1)]
  have n1:(a.choice !=b.choice)=false:=by rw[h1];exact bne_self_eq_false _
  rw[<-hr']at HL;clear hr hr' h1;go_enter func252,ntmps252;go_upto_region 1 with fail
  simp only[<-HW.out];go_wp2_with (go_at_call 158;refine(HL.out _).mono ?_;rintro en w2 ⟨rfl,hb2⟩)
  go_ret;exact⟨rfl,hbW.trans (hb2.mono hbW.size)⟩
 ·have hr':r=decide (a.choice<b.choice):=by rw[hr];unfold DG;rw[if_pos h1]
  have n1:(a.choice !=b.choice)=true:=by simpa using h1
  have hd:=hr'.symm;clear hr hr' h1;go_enter func252,ntmps252;go_upto_region 1 with fail
  simp only[<-HW.out];go_wp2;go_ret;exact⟨rfl,hbW⟩
end
end Go.Proofs.YtadllffeoibelaaGreat
