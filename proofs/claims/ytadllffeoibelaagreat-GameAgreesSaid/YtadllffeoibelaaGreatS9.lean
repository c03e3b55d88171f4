/-
  What these parts of the proof come to, functions walked and plain laws: SlLay, Pd7, SgR, Build, Defs, Str, Sgs, VtRow, Asc1. No condition.
-/
import Derived.Shelf.SlSortFuncK.WholeK
import Derived.Test.YtadllffeoibelaaGreatS1
import Derived.Test.YtadllffeoibelaaGreatS8
import Derived.Sort.OwnSorted
import Derived.Test.YtadllffeoibelaaGreatS3
import Derived.Test.YtadllffeoibelaaGreatS7
import Derived.Laws.IdiomStrings
import Derived.Laws.BytesArg
import Derived.WalkMore
import Derived.ScopeJumps
import Derived.Test.YtadllffeoibelaaGreatS5
import Derived.Great.BuildSlice
import Derived.Test.YtadllffeoibelaaGreatS6
namespace Go.Proofs.YtadllffeoibelaaGreat
set_option maxRecDepth 100000
set_option maxHeartbeats 32000000
set_option linter.all false
section
open Go.Shelf
def Jb:Ren:=
{
 f:=fun x=>
  match x with
  |6=>116
  |10=>120
  |11=>121
  |12=>123
  |13=>168
  |14=>169
  |24=>227
  |25=>228
  |26=>179
  |27=>229
  |28=>230
  |29=>231
  |30=>232
  |31=>233
  |32=>234
  |33=>235
  |34=>267
  |35=>268
  |36=>269
  |37=>270
  |38=>271
  |39=>279
  |n=>n,
 t:=fun x=>
  match x with
  |20=>20
  |26=>147
  |35=>184
  |0=>0
  |37=>186
  |3=>3
  |41=>53
  |44=>190
  |49=>130
  |51=>55
  |4=>4
  |54=>272
  |53=>271
  |58=>252
  |5=>5
  |9=>9
  |60=>297
  |64=>301
  |66=>307
  |67=>308
  |17=>17
  |32=>181
  |33=>182
  |82=>323
  |12=>12
  |75=>316
  |76=>317
  |77=>318
  |78=>319
  |79=>320
  |80=>321
  |n=>n,
 g:=fun n=>n}
theorem Ho:LaysGg.n6 Tryz.prog Jb where
 mixed:=by kernel_rfl
 f6:=Eq.trans Tryz.func116 (by kernel_rfl)
 f10:=Eq.trans Tryz.func120 (by kernel_rfl)
 f11:=Eq.trans Tryz.func121 (by kernel_rfl)
 f12:=Eq.trans Tryz.func123 (by kernel_rfl)
 f13:=Eq.trans Tryz.func168 (by kernel_rfl)
 f14:=Eq.trans Tryz.func169 (by kernel_rfl)
 f24:=Eq.trans Tryz.func227 (by kernel_rfl)
 f25:=Eq.trans Tryz.func228 (by kernel_rfl)
 f26:=Eq.trans Tryz.func179 (by kernel_rfl)
 f27:=Eq.trans Tryz.func229 (by kernel_rfl)
 f28:=Eq.trans Tryz.func230 (by kernel_rfl)
 f29:=Eq.trans Tryz.func231 (by kernel_rfl)
 f30:=Eq.trans Tryz.func232 (by kernel_rfl)
 f31:=Eq.trans Tryz.func233 (by kernel_rfl)
 f32:=Eq.trans Tryz.func234 (by kernel_rfl)
 f33:=Eq.trans Tryz.func235 (by kernel_rfl)
 f34:=Eq.trans Tryz.func267 (by kernel_rfl)
 f35:=Eq.trans Tryz.func268 (by kernel_rfl)
 f36:=Eq.trans Tryz.func269 (by kernel_rfl)
 f37:=Eq.trans Tryz.func270 (by kernel_rfl)
 f38:=Eq.trans Tryz.func271 (by kernel_rfl)
 f39:=Eq.trans Tryz.func279 (by kernel_rfl)
 t0:=Tryz.underlying0
 a0:=Tryz.isAgg0
 z0:=Tryz.sizeOf0
 v0:=Tryz.zeroValue0
 i0:=by kernel_rfl
 t3:=Tryz.underlying3
 a3:=Tryz.isAgg3
 z3:=Tryz.sizeOf3
 v3:=Tryz.zeroValue3
 i3:=by kernel_rfl
 t4:=Tryz.underlying4
 a4:=Tryz.isAgg4
 z4:=Tryz.sizeOf4
 v4:=Tryz.zeroValue4
 i4:=by kernel_rfl
 t5:=Tryz.underlying5
 a5:=Tryz.isAgg5
 z5:=Tryz.sizeOf5
 v5:=Tryz.zeroValue5
 i5:=by kernel_rfl
 t9:=Tryz.underlying9
 a9:=Tryz.isAgg9
 z9:=Tryz.sizeOf9
 v9:=Tryz.zeroValue9
 i9:=by kernel_rfl
 t12:=Tryz.underlying12
 a12:=Tryz.isAgg12
 z12:=Tryz.sizeOf12
 v12:=Tryz.zeroValue12
 i12:=by kernel_rfl
 t17:=Tryz.underlying17
 a17:=Tryz.isAgg17
 z17:=Tryz.sizeOf17
 v17:=Tryz.zeroValue17
 i17:=by kernel_rfl
 t20:=Tryz.underlying20
 a20:=Tryz.isAgg20
 z20:=Tryz.sizeOf20
 v20:=Tryz.zeroValue20
 i20:=by kernel_rfl
 t26:=Tryz.underlying147
 a26:=Tryz.isAgg147
 z26:=Tryz.sizeOf147
 v26:=Tryz.zeroValue147
 i26:=by kernel_rfl
 t32:=Tryz.underlying181
 a32:=Tryz.isAgg181
 z32:=Tryz.sizeOf181
 v32:=Tryz.zeroValue181
 i32:=by kernel_rfl
 t33:=Tryz.underlying182
 a33:=Tryz.isAgg182
 z33:=Tryz.sizeOf182
 v33:=Tryz.zeroValue182
 i33:=by kernel_rfl
 t35:=Tryz.underlying184
 a35:=Tryz.isAgg184
 z35:=Tryz.sizeOf184
 v35:=Tryz.zeroValue184
 i35:=by kernel_rfl
 t37:=Tryz.underlying186
 a37:=Tryz.isAgg186
 z37:=Tryz.sizeOf186
 v37:=Tryz.zeroValue186
 i37:=by kernel_rfl
 t41:=Tryz.underlying53
 a41:=Tryz.isAgg53
 z41:=Tryz.sizeOf53
 v41:=Tryz.zeroValue53
 i41:=by kernel_rfl
 t44:=Tryz.underlying190
 a44:=Tryz.isAgg190
 z44:=Tryz.sizeOf190
 v44:=Tryz.zeroValue190
 i44:=by kernel_rfl
 t49:=Tryz.underlying130
 a49:=Tryz.isAgg130
 z49:=Tryz.sizeOf130
 v49:=Tryz.zeroValue130
 i49:=by kernel_rfl
 t51:=Tryz.underlying55
 a51:=Tryz.isAgg55
 z51:=Tryz.sizeOf55
 v51:=Tryz.zeroValue55
 i51:=by kernel_rfl
 t53:=Tryz.underlying271
 a53:=Tryz.isAgg271
 z53:=Tryz.sizeOf271
 v53:=Tryz.zeroValue271
 i53:=by kernel_rfl
 t54:=Tryz.underlying272
 a54:=Tryz.isAgg272
 z54:=Tryz.sizeOf272
 v54:=Tryz.zeroValue272
 i54:=by kernel_rfl
 t58:=Tryz.underlying252
 a58:=Tryz.isAgg252
 z58:=Tryz.sizeOf252
 v58:=Tryz.zeroValue252
 i58:=by kernel_rfl
 t60:=Tryz.underlying297
 a60:=Tryz.isAgg297
 z60:=Tryz.sizeOf297
 v60:=Tryz.zeroValue297
 i60:=by kernel_rfl
 t64:=Tryz.underlying301
 a64:=Tryz.isAgg301
 z64:=Tryz.sizeOf301
 v64:=Tryz.zeroValue301
 i64:=by kernel_rfl
 t66:=Tryz.underlying307
 a66:=Tryz.isAgg307
 z66:=Tryz.sizeOf307
 v66:=Tryz.zeroValue307
 i66:=by kernel_rfl
 t67:=Tryz.underlying308
 a67:=Tryz.isAgg308
 z67:=Tryz.sizeOf308
 v67:=Tryz.zeroValue308
 i67:=by kernel_rfl
 t75:=Tryz.underlying316
 a75:=Tryz.isAgg316
 z75:=Tryz.sizeOf316
 v75:=Tryz.zeroValue316
 i75:=by kernel_rfl
 t76:=Tryz.underlying317
 a76:=Tryz.isAgg317
 z76:=Tryz.sizeOf317
 v76:=Tryz.zeroValue317
 i76:=by kernel_rfl
 t77:=Tryz.underlying318
 a77:=Tryz.isAgg318
 z77:=Tryz.sizeOf318
 v77:=Tryz.zeroValue318
 i77:=by kernel_rfl
 t78:=Tryz.underlying319
 a78:=Tryz.isAgg319
 z78:=Tryz.sizeOf319
 v78:=Tryz.zeroValue319
 i78:=by kernel_rfl
 t79:=Tryz.underlying320
 a79:=Tryz.isAgg320
 z79:=Tryz.sizeOf320
 v79:=Tryz.zeroValue320
 i79:=by kernel_rfl
 t80:=Tryz.underlying321
 a80:=Tryz.isAgg321
 z80:=Tryz.sizeOf321
 v80:=Tryz.zeroValue321
 i80:=by kernel_rfl
 t82:=Tryz.underlying323
 a82:=Tryz.isAgg323
 z82:=Tryz.sizeOf323
 v82:=Tryz.zeroValue323
 i82:=by kernel_rfl
end
section
open Go.RowKit Go.Shelf Go.Sort
theorem PE{α:Type}(l:List α)(i j:Nat)(hij:i<j)(hj:j<l.length):∃(P M S:List α) (x y:α),l=P++x::(M++y::S)∧P.length=i∧P.length+1+M.length=j:=by
 have e1:l.drop i=l[i]::l.drop (i+1):=List.drop_eq_getElem_cons _;have e3:(l.drop (i+1)).drop (j-i-1)=l[j]::l.drop (j+1):=by
  rw[List.drop_drop,show i+1+(j-i-1)=j from by omega];exact List.drop_eq_getElem_cons _
 refine⟨l.take i,(l.drop (i+1)).take (j-i-1),l.drop (j+1),l[i],l[j],?_,by simp;omega,by simp;omega⟩;rw[←e3,Aj,←e1,Aj]
theorem NI{α:Type}(l:List α)(i j:Nat)(hi:i<l.length)(hj:j<l.length):(CO l i j).Perm l:=by
 have key:∀(l:List α) (i j:Nat),i<j→j<l.length→(CO l i j).Perm l:=fun l i j hij hj=>by
  obtain⟨P,M,S,x,y,e,h1,h2⟩:=PE l i j hij hj;rw[e,←h2,←h1,Fj];refine List.Perm.append_left P ?_;exact((List.perm_middle).cons y).trans ((List.Perm.swap x y _).trans ((List.perm_middle).symm.cons x))
 rcases Nat.lt_trichotomy i j with h|h|h
 ·exact key l i j h hj
 ·subst h;unfold CO;rw[AE hi];simp
 ·rw[JZ];exact key l j i h hi
section
variable {α:Type}[Inhabited α](n cap:Nat)
structure Lit (enc:α→List Value)(m:Nat)(e:TypeId)(f:Nat)(gS:Bool):Prop where
 hx:∀args W,(callFunc f args).run Tryz.prog W=((Extern.ReflectliteSwapper.swap gS args).run Tryz.prog W).andThen fun v w'=>.ok (.value v) w'
 ie:∃ie:TypeInfo,Tryz.prog.info? e=some ie∧ie.size=m
 agg:∀w,(isAgg e).run Tryz.prog w= .ok true w
 len:∀x,(enc x).length=m
 one:∀x,∀v∈enc x,v.oneCell'=true
omit [Inhabited α]in
theorem Kz{enc:α→List Value}{m g:Nat}{e:TypeId}{f:Nat}{gS:Bool}(H:Lit enc m e f gS)(W:World)(l:List α)(i j:Nat)(hi:i<l.length)(hj:j<l.length)(hin:i<n)(hjn:j<n)(hcell:∀(k u:Nat) (z:α) (v:Value),l[k]? =some z→(enc z)[u]? =some v→W.cell? ⟨g,0+k*m+u,none⟩=some v)(hfr:∀k,k<l.length→∀u,u<m→W.frozen? ⟨g,0+k*m+u,none⟩=false):(callFunc f (#[.int .i64 (i:Int),.int .i64 (j:Int)]++#[.slice (some ⟨g,0,none⟩) n cap,typeHandle Tryz.prog e])).run Tryz.prog W= .ok (.value (.tuple #[])) ((W.setCells g (0+i*m) (enc l[j])).setCells g (0+j*m) (enc l[i])):=by
 obtain⟨ie,hie,hsz⟩:=H.ie;subst hsz;have hrun:=Lib.run_swap_cells (P:=Tryz.prog) gS e ie hie H.agg g 0 n cap i j hin hjn (enc l[i]) (enc l[j]) (H.len _) (H.len _) (H.one _) (H.one _) W (fun u v hv=>hcell i u _ v (AE hi) hv) (fun u v hv=>hcell j u _ v (AE hj) hv)
  (fun u hu=>hfr i hi u hu) (fun u hu=>hfr j hj u hu)
 rw[H.hx,show(#[Value.int .i64 (i:Int),Value.int .i64 (j:Int)]++#[Value.slice (some ⟨g,0,none⟩) n cap,typeHandle Tryz.prog e])=#[.int .i64 i,.int .i64 j,.slice (some ⟨g,0,none⟩) n cap,typeHandle Tryz.prog e]from rfl,hrun];rfl
omit [Inhabited α]in
theorem D3{c:Be α}{m:Nat}{t:TypeId}{g:Nat}{W:World}{l:List α}(hm:∀x,(c.enc x).length=m)(hb:Blk W g t (l.flatMap c.enc++c.tail).toArray)(k u:Nat)(z:α)(v:Value)(hz:l[k]? =some z)(hv:(c.enc z)[u]? =some v):W.cell? ⟨g,0+k*m+u,none⟩=some v:=by
 have hu:u<m:=by rw[←hm z];exact(AG.1 hv).1
 have h1:=CG c.enc m l (fun x _=>hm x) k u z hz hu;rw[hv]at h1;rw[hb.cell,Nat.zero_add,List.getElem?_toArray,List.getElem?_append_left (AG.1 h1).1,h1]
omit [Inhabited α]in
theorem Gn{c:Be α}{m:Nat}{t:TypeId}{g:Nat}{W:World}{l:List α}(hm:∀x,(c.enc x).length=m)(hb:Blk W g t (l.flatMap c.enc++c.tail).toArray)(i:Nat)(x:α)(hi:i<l.length):Blk (W.setCells g (i*m) (c.enc x)) g t ((l.set i x).flatMap c.enc++c.tail).toArray∧W.grownBy (W.setCells g (i*m) (c.enc x)) (some g):=by
 have hlen:=AX c.enc m l (fun x _=>hm x);have bi:i*m+m≤l.length*m:=by
  have:=Nat.mul_le_mul_right m (show i+1≤l.length by omega);rwa[Nat.succ_mul]at this
 obtain⟨b1,k1⟩:=DD g t (c.enc x) (i*m) W _ hb (by rw[hm,AI,hlen];omega);refine⟨?_,k1⟩;rw[hm,List.take_append_of_le_length (by rw[hlen];omega),List.drop_append_of_le_length (by rw[hlen];omega),←List.append_assoc,←Gl c.enc m l (fun x _=>hm x) i x hi]at b1;exact b1
omit [Inhabited α]in
theorem IF{c:Be α}{m g:Nat}{e:TypeId}{f:Nat}{gS:Bool}(H:Lit c.enc m e f gS)(t:TypeId)(w0:World):OF c t w0 g n f #[.slice (some ⟨g,0,none⟩) n cap,typeHandle Tryz.prog e]:=by
 intro W l i j hr hn hi hj _;have hi':i<l.length:=by omega
 have hj':j<l.length:=by omega
 have hm:=H.len;have hrun:=Kz (g:=g) (n:=n) (cap:=cap) H W l i j hi' hj' hi hj (fun k u z v=>D3 hm hr.blk k u z v) (fun k _ u _=>hr.blk.frozen _);obtain⟨b1,k1⟩:=Gn hm hr.blk i l[j] hi';obtain⟨b2,k2⟩:=Gn hm b1 j l[i] (by rw[List.length_set];exact hj');refine⟨_,by rw[hrun,Nat.zero_add,Nat.zero_add],CO l i j,NI l i j hi' hj',?_,k1.trans k2⟩;unfold CO;rw[AE hi',AE hj'];exact b2
/-! ### The kit's row and ours -/
theorem OG{enc:α→List Value}{m:Nat}(hm:∀x,(enc x).length=m)(hm0:0<m)(l:List α):flatK enc m l.toArray=(l.flatMap enc).toArray:=by
 have hl:=AX enc m l (fun x _=>hm x);refine ext_get! (by simp[hl]) fun u hu=>?_
 have hu':u<l.toArray.size*m:=by simpa using hu
 rw[get_flatK enc m l.toArray u hu'];have h1:u/m<l.length:=by
  rw[Nat.div_lt_iff_lt_mul hm0];simpa using hu'
 have h2:u%m<m:=Nat.mod_lt _ hm0;have h3:=CG enc m l (fun x _=>hm x) (u/m) (u%m) l[u/m] (AE h1) h2;rw[Nat.div_add_mod' u m]at h3;have hu2:u<(l.flatMap enc).length:=by rw[hl];simpa using hu'
 rw[AE hu2,AE (by rw[hm];exact h2)]at h3;rw[getElem!_pos l.toArray (u/m) (by simpa using h1),getElem!_pos (l.flatMap enc).toArray u (by simpa using hu2)];simp only[List.getElem_toArray];rw[getElem!_pos (enc l[u/m]) (u%m) (by rw[hm];exact h2)];exact(Option.some.inj h3).symm
theorem Q9{c:Be α}{m:Nat}(hm:∀x,(c.enc x).length=m)(hm0:0<m){W:World}{g:Nat}{t:TypeId}{l:List α}(hb:Blk W g t (l.flatMap c.enc++c.tail).toArray):HoldsK c.enc m W g 0 l.toArray:=by
 intro u hu;rw[OG hm hm0]at hu ⊢;refine⟨?_,hb.frozen _⟩;have hu2:u<(l.flatMap c.enc).length:=by simpa using hu
 rw[hb.cell,Nat.zero_add,getElem!_pos (l.flatMap c.enc).toArray u hu,List.getElem?_toArray,List.getElem?_append_left hu2,AE hu2];rfl
theorem Jm{c:Be α}{m:Nat}(hm:∀x,(c.enc x).length=m)(hm0:0<m){W:World}{g:Nat}{t:TypeId}{l l':List α}(hb:Blk W g t (l.flatMap c.enc++c.tail).toArray)(hl:l'.length=l.length)(k:Nat)(os:Array Obj):Bx c t W g l' (sortWorldK c.enc m W g 0 k l'.toArray os):=by
 have e:(l'.flatMap c.enc).length=(l.flatMap c.enc).length:=by rw[AX c.enc m l' (fun x _=>hm x),AX c.enc m l (fun x _=>hm x),hl]
 unfold sortWorldK putRowK;rw[OG hm hm0];have hg:g<W.heap.size:=hb.lt;refine⟨?_,rfl,rfl,rfl,by simp,fun i hi hne=>?_⟩
 ·show(grow (putRow id (Sort.ahead W k) g 0 (l'.flatMap c.enc).toArray) os).heap[g]? =_;rw[heap_grow_old _ _ (by simpa using hg)];have hb':W.heap[g]? =some (.cells (l.flatMap c.enc++c.tail).toArray t (0,0)):=hb;simp only[putRow,mapBlock,Sort.ahead,Array.getElem?_modify,hb',onCells,if_true,Option.map_some];congr 2;apply Array.ext
  ·simp[putCells,e]
  ·intro u h1 h2;simp only[putCells,Array.getElem_mapIdx,Nat.zero_le,true_and,Nat.zero_add,Nat.sub_zero,id,List.getElem_toArray];by_cases hu:u<(l'.flatMap c.enc).length
   ·rw[if_pos (by simpa using hu),getElem!_pos (l'.flatMap c.enc).toArray u (by simpa using hu),List.getElem_append_left hu];rfl
   ·rw[if_neg (by simpa using hu),List.getElem_append_right (by omega),List.getElem_append_right (by omega)];simp only[e]
 ·rw[heap_grow_old _ _ (by simpa using hi)];have:g≠i:=fun e=>hne (by rw[e])
  simp[putRow,mapBlock,Sort.ahead,Array.getElem?_modify,this]
def Sc(c:Be α)(t:TypeId)(w0:World)(g n f F:Nat)(sb lb:Array Value)(l0:List α):Prop:=
 ∀(a b:Nat) (w:World),BC c t g l0 w0 w→a+12<b→b≤n→
  Calls Tryz.prog 230 #[.agg #[.func (.func F) #[] lb,.func (.func f) #[] sb],.int .i64 (a:Int),.int .i64 (b:Int)] w fun e w'=>e= .returned (.tuple #[])∧BC c t g l0 w w'
theorem OH{c:Be α}{m g:Nat}{e:TypeId}{f:Nat}{gS:Bool}(H:Lit c.enc m e f gS)(hm0:0<m)(t:TypeId)(w0:World)(F:Nat)(lb:Array Value)(l0:List α)(hn:l0.length=n)(hsm:n≤1000000):Sc c t w0 g n f F #[.slice (some ⟨g,0,none⟩) n cap,typeHandle Tryz.prog e] lb l0:=by
 intro a b w hw hab' hb;have hab:a≤b:=by omega
 obtain⟨l,h1,h2⟩:=hw;have hl:l.length=n:=h2.length_eq.trans hn;have hm:=H.len;have hS:SwapSwapsK Tryz.prog f #[.slice (some ⟨g,0,none⟩) n cap,typeHandle Tryz.prog e] c.enc m g 0 l.toArray.size:=by
  intro W dk hk hs i j hi hj;simp only[List.size_toArray]at hs hi hj;have hi':i<dk.toList.length:=by simpa[hs]using hi
  have hj':j<dk.toList.length:=by simpa[hs]using hj
  have key:∀(k u:Nat),k<dk.toList.length→u<m→W.cell? ⟨g,0+k*m+u,none⟩=(c.enc dk.toList[k]!)[u]?∧W.frozen? ⟨g,0+k*m+u,none⟩=false:=fun k u hk' hu=>by
   have hkd:k<dk.size:=by simpa using hk'
   have hlt:k*m+u<dk.size*m:=by
    have:=Nat.mul_le_mul_right m (show k+1≤dk.size by omega);rw[Nat.succ_mul]at this;omega
   have h:=hk (k*m+u) (by simpa using hlt);have hd:(k*m+u)/m=k:=by rw[Nat.add_comm,Nat.add_mul_div_right _ _ hm0,Nat.div_eq_of_lt hu,Nat.zero_add]
   have hmo:(k*m+u)%m=u:=by rw[Nat.add_comm,Nat.add_mul_mod_self_right,Nat.mod_eq_of_lt hu]
   rw[get_flatK c.enc m dk _ hlt,hd,hmo]at h;rw[Nat.add_assoc];refine⟨h.1.trans ?_,h.2⟩;have e1:dk[k]! =dk.toList[k]!:=by rw[getElem!_pos dk k hkd,getElem!_pos dk.toList k hk'];rfl
   rw[e1,getElem!_pos (c.enc dk.toList[k]!) u (by rw[hm];exact hu),AE (by rw[hm];exact hu)];rfl
  have hrun:=Kz (g:=g) (n:=n) (cap:=cap) H W dk.toList i j hi' hj' (by omega) (by omega)
   (fun k u z v hz hv=>by
    have hk':=(AG.1 hz).1;have hu:u<m:=by rw[←hm z];exact(AG.1 hv).1
    have ez:dk.toList[k]! =z:=by rw[getElem!_pos dk.toList k hk'];exact(AG.1 hz).2
    rw[(key k u hk' hu).1,ez,hv]) (fun k hk' u hu=>(key k u hk' hu).2)
  rw[hrun,getElem!_pos dk j (by simpa using hj'),getElem!_pos dk i (by simpa using hi')];rfl
 have hH:HoldsK c.enc m w g 0 l.toArray:=Q9 hm hm0 h1.blk;refine(Any.breakPatterns_func_cells_w {Ho with} c.enc m hm (.func F) #[] lb f #[.slice (some ⟨g,0,none⟩) n cap,typeHandle Tryz.prog e] g 0 a b l.toArray w hS hH h1.blk.lt hab (by simp;omega) (by simp;omega)).mono ?_;rintro e w' ⟨rfl,k,os,rfl⟩;have hp:=breakPatterns_holds l.toArray a b hab (by simp;omega);refine⟨rfl,(breakPatterns l.toArray a b).toList,?_,?_⟩
 ·have hsz:(breakPatterns l.toArray a b).toList.length=l.length:=by
   have:=hp.1;simpa using this
  have:=Jm hm hm0 h1.blk hsz k os;simpa using this
 ·have hq:=permIn_mono l.toArray (breakPatterns l.toArray a b) a b 0 l.toArray.size (Nat.zero_le _) (by simp;omega) (AB _) hp;have h3:=hq.2.2;rw[Array.extract_size,←hq.1,Array.extract_size]at h3;exact h3.trans h2
end
end
section
open Go.RowKit
structure Ev where
 a:Sg
 b:Sg
namespace Ev
def cells(e:Ev):Array Value:=e.a.cells++e.b.cells
abbrev val(e:Ev):Value:=.agg e.cells
theorem size_cells(e:Ev):e.cells.size=46:=by simp[cells,Sg.size_cells]
end Ev
def sgn(e:Ev):Int:=e.a.vote.signer
theorem Sg.one(s:Sg):∀u∈s.cells.toList,u.oneCell'=true:=by
 intro u hu;simp[Sg.cells]at hu;rcases hu with h|h|h|h|h|h|h|h|h|h|h|h|h|h|h|h|h|h|h|h|h|h|h <;> subst h <;> rfl
theorem BZ{w w':World}{base e size n:Nat}{row:Option Nat}{v:Value}{xs:List Value}(h:w.ownsRow base e size v n xs)(hg:w.grownBy w' row)(hr:∀k,row=some k→w.heap.size≤k∨v.ownBlock≠some k):w'.ownsRow base e size v n xs:=by
 refine⟨h.1,?_⟩;rcases h.2 with h2|⟨g,cap,cur,rfl,h1,hh,r⟩
 ·exact .inl h2
 ·refine .inr ⟨g,cap,cur,rfl,h1,(hg.block g (lt_of_block hh) ?_).trans hh,r⟩;intro e;rcases hr g e.symm with h3|h3
  ·have:=lt_of_block hh;omega
  ·exact h3 rfl
abbrev Ah:Array Value:=#[.int .i64 0,.int .i64 0,.int .i64 0,.int .i64 0,.int .i64 0,.int .i64 0,.int .u8 0,.int .u8 0,.int .u8 0,.int .u8 0,.int .u8 0,.int .u8 0,.int .u8 0,.int .u8 0,.int .u8 0,.int .u8 0,.int .u8 0,.int .u8 0,.int .u8 0,.int .u8 0,.int .u8 0,.int .u8 0]
theorem BM{u:Value}(v:Vt)(h:u∈v.cells.toList):u.oneCell'=true:=by
 simp at h;rcases h with rfl|rfl|rfl|rfl|rfl|rfl|rfl|rfl|rfl|rfl|rfl|rfl|rfl|rfl|rfl|rfl|rfl|rfl|rfl|rfl|rfl|rfl <;> rfl
theorem DU{P:Program}{w:World}{o:Oper}{a:Act}{K:Act→World→Prop}{Q:Exit→Act→World→Prop}(d:Option Tmp)(hd:o.dst=d)(s x:Operand)(t:TypeId)(ho:o.op= .call {callee:=.builtin .append,args:=#[s,x],argTypes:=#[t,t]})
  (base:Nat) (e:TypeId) (z:Value) (size bytes:Nat) (ht:P.underlying t=some (.slice e)) (hi:(P.info? e).map (fun i=>(i.zero,i.size,i.bytes))=some (some z,size,bytes)) (hzs:z.cells.size=size) (hsz:0<size)
  (v:Value) (n:Nat) (xs:List Value) (hs:a.eval s=v) (hown:w.ownsRow base e size v n xs)
  (B:Nat) (A:Option Addr) (m c:Nat) (news:List Value) (hx:a.eval x= .slice A m c) (hl:news.length=m*size) (hr:Rd w B A news) (h1:∀u∈news,u.oneCell'=true)
  (hbytes:(n+m)*bytes≤140737488355328) (h63:n+m≤maxLen) (hbase:base≤w.heap.size)
  (h:∀v' w',w'.ownsRow base e size v' (n+m) (xs++news)→w.grownBy w' v.ownBlock→(v'.ownBlock=v.ownBlock∨v'.ownBlock=some w.heap.size)→K (a.put d v') w'):
  o.wp P a w K Q:=by
 subst hd;exact Sf s x t ho base e z size bytes ht hi hzs hsz v n xs hs hown B A m c news hx hl hr h1 hbytes h63 hbase h
theorem Rd.kept{w w':World}{B':Nat}{A:Option Addr}{xs:List Value}{row:Option Nat}(h:Rd w B' A xs)(hg:w.grownBy w' row)(hB:B'≤w.heap.size)(hne:∀p,A=some p→some p.block≠row):Rd w' B' A xs:=by
 rcases h with h|⟨b,o,rfl,hb,hc⟩
 ·exact .inl h
 ·exact .inr ⟨b,o,rfl,hb,fun j u hu=>(World.cell?_of_block (a:=⟨b,o+j,none⟩) (hg.block b (by omega) (hne _ rfl))).trans (hc j u hu)⟩
abbrev BK:Array Value:=#[.int .i64 0,.int .i64 0,.int .i64 0,.int .i64 0,.int .i64 0,.int .i64 0,.int .u8 0,.int .u8 0,.int .u8 0,.int .u8 0,.int .u8 0,.int .u8 0,.int .u8 0,.int .u8 0,.int .u8 0,.int .u8 0,.int .u8 0,.int .u8 0,.int .u8 0,.int .u8 0,.int .u8 0,.int .u8 0,.slice none 0 0]
theorem NJ{u:Value}(h:u∈BK.toList):u.oneCell'=true:=by
 simp at h;rcases h with rfl|rfl|rfl <;> rfl
theorem CE{u:Value}(h:u∈Ah.toList):u.oneCell'=true:=by
 simp at h;rcases h with rfl|rfl <;> rfl
theorem RA{u:Value}(s:Sg)(h:u∈s.cells.toList):u.oneCell'=true:=by
 unfold Sg.cells at h;rw[Array.toList_push,AP]at h;rcases h with h|h
 ·exact BM _ h
 ·simp at h;subst h;rfl
theorem Cx:(Tryz.prog.info? 62).map (·.size)=some 23:=by kernel_rfl
abbrev UK(v:Vt)(x:Value):Array Value:=#[I v.kind,I v.slot,I v.round,I v.choice,I v.signer,I v.support,B v.parent.b0,B v.parent.b1,B v.parent.b2,B v.parent.b3,B v.parent.b4,B v.parent.b5,B v.parent.b6,B v.parent.b7,B v.value.b0,B v.value.b1,B v.value.b2,B v.value.b3,B v.value.b4,B v.value.b5,B v.value.b6,B v.value.b7,x]
theorem NK(v:Vt)(sig:List UInt8)(A:Option Addr)(c:Nat):(Sg.mk v sig A c).cells=UK v (.slice A sig.length c):=rfl
theorem Rd.row{w:World}{B':Nat}{b o:Nat}{l:List Nm}{k:Nat}{x:Nm}(h:Rd w B' (some ⟨b,o,none⟩) (l.flatMap nmc))(hk:l[k]? =some x):AK w b (o+k*8) 8=some x.cells:=by
 obtain⟨b',o',e,_,hc⟩:=h.name hk;injection e with e
 injection e with e1 e2
 subst e1;subst e2;exact Bo (fun j u hu=>hc j u (by simpa using hu)) rfl
theorem RB(w:World)(B':Nat)(A:Option Addr)(c:Nat)(l:List UInt8)(hr:Rd w B' A (l.map B)):(convert 60 9 (.slice A l.length c)).run Tryz.prog w= .ok (.string ⟨l.toArray⟩) w:=by
 rcases A with _|a
 ·have hl:l=[]:=by
   rcases hr with h|⟨b,o,h,_⟩
   ·simpa using h
   ·cases h
  subst hl;exact run_convert_bytes_nil w 60 5 Tryz.underlying60 Tryz.underlying5 _ _ 9 Tryz.underlying9
 ·refine run_convert_bytes_back w 60 9 5 a c l Tryz.underlying60 Tryz.underlying5 Tryz.underlying9 (fun j hj=>?_);rcases hr with h|⟨b,o,h,_,hc⟩
  ·simp at h;subst h;simp at hj
  ·injection h with h;subst h
   rw[Addr.add_mid];exact hc j _ (by simp[hj])
end
section
open Go.RowKit
attribute [local go_sem ↓] Go.wp_at_zero Go.wp_at_succ An Au Av Aw
attribute [local go_sem] BD BH BI BJ AN AW AQ
theorem BP{P:Program}{ops:Array Oper}{rest:List Oper}{o:Oper}{a:Act}{w:World}{Q:Exit→Act→World→Prop}(hg:o.guard=none)(t e:TypeId)(x:Operand)(ho:o.op= .buildSlice t 1 #[(0,x)])(cs:Array Value)(hx:a.eval x= .agg cs)(hu:P.underlying t=some (.slice e))(hi:(P.info? e).map (fun i=>(i.zero.isSome,i.size))=some (true,cs.size))(hpos:0<cs.size)(hsm:cs.size≤1000)(h:wpList P ops Q rest (a.put o.dst (.slice (some ⟨w.heap.size,0,none⟩) 1 1)) (w.alloc (.cells cs e))):wpList P ops Q (o::rest) a w:=by
 cases hie:P.info? e with
 |none=>simp[hie]at hi
 |some ie=>
  simp only[hie,Option.map_some,Option.some.injEq,Prod.mk.injEq]at hi;obtain⟨hz,hsz⟩:=hi;obtain⟨z,hzz⟩:=Option.isSome_iff_exists.1 hz;refine wpList_buildSlice hg t e 1 #[(0,x)] ho cs ie z hu hie hzz (by rw[hsz];omega) (by rw[hsz];omega) ?_ h;have hf:=Great.fill_whole (s:=ie.size) (by rw[hsz];exact hpos) [Value.agg cs] ((Array.range (1*ie.size)).map (z.cells[· %z.cells.size]!)) (by intro v hv;rw[AR.1 hv,hsz];rfl) (by simp);have ev:(#[(0,x)].map fun((i,x):Nat×Operand)=>(i,a.eval x)).toList=([Value.agg cs].zipIdx 0).map fun x=>(x.2,x.1):=by simp[hx]
  rw[ev,hf];simp[Value.cells]
theorem C6:(Tryz.prog.info? 62).map (fun i=>(i.zero,i.size,i.bytes))=some (some (.agg BK),23,88):=by kernel_rfl
abbrev sgc(s:Sg):List Value:=s.cells.toList
theorem CM(l:List Sg):∀s∈l,(sgc s).length=23:=fun s _=>by rw[Array.length_toList];exact s.size_cells
theorem Rd.sgRow{w:World}{B' b o:Nat}{l:List Sg}{k:Nat}{s:Sg}(h:Rd w B' (some ⟨b,o,none⟩) (l.flatMap sgc))(hk:l[k]? =some s):AK w b (o+k*23) 23=some s.cells:=by
 have hpos:=(AG.1 hk).1;rcases h with h|⟨b',o',e,hb,hc⟩
 ·have:=AX sgc 23 l (CM l);rw[h]at this;simp at this;omega
 ·injection e with e
  injection e with e1 e2
  subst e1;subst e2;refine Bo (fun j u hu=>?_) s.size_cells;have hj:j<23:=by
   have:=(AG.1 hu).1;rwa[Array.length_toList,s.size_cells]at this
  rw[Nat.add_assoc];refine hc _ u ?_;rw[CG sgc 23 l (CM l) k j s hk hj,←hu]
def FP(w:World)(B':Nat)(l:List Sg):Prop:=∀s∈l,I5 w B' s∧Sb s
end
section
open Go.RowKit
abbrev vtc(v:Vt):List Value:=v.cells.toList
theorem B6(l:List Vt):∀v∈l,(vtc v).length=22:=fun _ _=>rfl
theorem Rd.voteRow{w:World}{B' b o:Nat}{l:List Vt}{k:Nat}{v:Vt}(h:Rd w B' (some ⟨b,o,none⟩) (l.flatMap vtc))(hk:l[k]? =some v):AK w b (o+k*22) 22=some v.cells:=by
 have hpos:=(AG.1 hk).1;rcases h with h|⟨b',o',e,hb,hc⟩
 ·have:=AX vtc 22 l (B6 l);rw[h]at this;simp at this;omega
 ·injection e with e
  injection e with e1 e2
  subst e1;subst e2;refine Bo (fun j u hu=>?_) rfl;have hj:j<22:=by
   have:=(AG.1 hu).1;simpa using this
  rw[Nat.add_assoc];refine hc _ u ?_;rw[CG vtc 22 l (B6 l) k j v hk hj,←hu]
end
section
open Go.RowKit
attribute [local go_sem ↓] Go.wp_at_zero Go.wp_at_succ An Au Av Aw
attribute [local go_sem] BD BH BI BJ AN AW AQ
theorem Bx.vt{T:List Value}{w0 W:World}{g i:Nat}{l:List Vt}{x:Vt}(h:Bx ⟨vtc,T⟩ 46 w0 g l W)(hx:l[i]? =some x):AK W g (i*22) 22=some x.cells:=by
 refine Bo (fun j u hu=>?_) rfl;have:=D3 (c:=⟨vtc,T⟩) (m:=22) (fun _=>rfl) h.blk i j x u hx (by simpa using hu);rwa[Nat.zero_add]at this
theorem NL(T:List Value)(B g n c:Nat)(l0:List Vt)(w0:World)(hB:Blk w0 B 56 #[.slice (some ⟨g,0,none⟩) n c])(hne:B≠g)(hn:l0.length=n):Fr ⟨vtc,T⟩ 46 w0 g l0 Bg 221 #[.pointer (some ⟨B,0,none⟩)]:=by
 intro W l i j x y hr hp hx hy;have hi:i<n:=by rw[←hn,←hp.length_eq];exact(AG.1 hx).1
 have hj:j<n:=by rw[←hn,←hp.length_eq];exact(AG.1 hy).1
 have hc0:W.cell? ⟨B,0,none⟩=some (.slice (some ⟨g,0,none⟩) n c):=(hr.box hB hne).cell 0;have HRows:Hid (∀V,Below W.heap.size W V→V.cell? ⟨B,0,none⟩=some (.slice (some ⟨g,0,none⟩) n c)∧AK V g (i*22) 22=some x.cells∧AK V g (j*22) 22=some y.cells):=
  fun V hV=>⟨(hV.cell (p:=⟨B,0,none⟩) (hr.box hB hne).lt).trans hc0,Ay (hr.vt hx) hV hr.blk.lt,Ay (hr.vt hy) hV hr.blk.lt⟩
 have HL:Hid (∀V,Below W.heap.size W V→Calls Tryz.prog 109 #[x.val,y.val] V (Al V (Bg x y))):=
  fun V hV=>KJ x y V
 obtain⟨r,hrr⟩:∃r,r=Bg x y:=⟨_,rfl⟩;rw[←hrr]at HL ⊢;clear hrr hc0 hr hp hx hy hB hn;have hbw:Below W.heap.size W W:=AC _ _;show Calls Tryz.prog 221 #[.int .i64 (i:Int),.int .i64 (j:Int),.pointer (some ⟨B,0,none⟩)] W _;go_enter Tryz.func221,Tryz.ntmps221;go_upto_region 1 with fail
 refine rgD (fun w'=>w'.cell? ⟨B,0,none⟩=some (.slice (some ⟨g,0,none⟩) n c)∧AK w' g (i*22) 22=some x.cells∧AK w' g (j*22) 22=some y.cells) (HRows.out _ hbw.drew) fun hHeld=>?_
 refine tkD 6 0 ?_;go_frame;refine tkD 7 1 ?_;go_frame;refine tkD 8 2 ?_;go_frame;refine tkD 9 3 ?_;go_frame;refine tkD 10 4 ?_;go_frame;refine tkD 11 5 ?_;go_frame;refine tkD 12 6 ?_;go_frame;refine tkD 13 7 ?_;go_frame;refine rd1 8 fun K hK=>?_
 go_simp;refine(HL.out _ hbw.drew).mono ?_;rintro en w2 ⟨rfl,hb2⟩;have hbw2:=hbw.drew.trans (hb2.mono hbw.size);go_wp2_with fail
 refine hK.out _ _ (HRows.out _ hbw2) (fun hHeld=>?_);clear hK K;try go_frame
 refine tkD 5 9 ?_;go_frame;refine dnD ?_;go_wp2;go_ret;exact⟨rfl,hbw2⟩
end
end Go.Proofs.YtadllffeoibelaaGreat
