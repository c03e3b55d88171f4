/-
  Parts of the proof. No condition.
-/
import Derived.Test.YtadllffeoibelaaGreatS2
import Derived.Laws.ResultCell
import Derived.ArgAppend
import Derived.Deep.DeepCutAuto
open Go.Proofs.Tryz
namespace Go.Proofs.YtadllffeoibelaaGreat
set_option maxRecDepth 100000
set_option maxHeartbeats 32000000
set_option linter.all false
section
open Go.RowKit
theorem Tv(i:Nat)(w:World)(hi:i<32):Calls prog 254 #[.int .i64 (i:Int),.int .i64 32] w fun e w'=>e= .returned (.int .i64 5)/\w'=w:=by
 go_enter func254,ntmps254;go_wp2
 go_loop [0,1,5,6] (fun vi vn vd _=>∃e j n:Nat,e<=5/\Hid (n=2^e)/\j<n/\n<=32/\vi= .int .i64 (j:Int)/\vn= .int .i64 (n:Int)/\vd= .int .i64 ((5-e:Nat):Int)) (fun _ vn _ _=>(intOf vn).toNat)
 case atStart=>exact⟨5,i,32,by omega,rfl,by omega,by omega,rfl,rfl,rfl⟩
 case round=>
  obtain⟨e,j,n,he,Hn,hj,hn32,rfl,rfl,rfl⟩:=hrel;cases e with
  |zero=>
   obtain rfl:n=1:=Hn.out;go_wp2;go_ret;exact⟨rfl,rfl⟩
  |succ e=>
   obtain⟨k,hk⟩:=Wr (2^e);have h2:n=2*k:=by rw[Hn.out,hk,Nat.pow_succ];omega
   have hk1:1<=k:=by rw[hk];exact Nat.one_le_two_pow
   have xN:Calls prog 137 #[.int .i64 (n:Int)] w fun en w'=>en= .returned (.int .i64 (k:Int))/\w'=w:=by
    rw[hk];exact EC e n w Hn.out (by omega)
   have HC:=AA xN;clear xN;have HK:=AA hk;clear hk;have h3:n<=2*k:=by omega
   have h4:2*k<=n:=by omega
   clear h2;by_cases hjk:j<k
   ·go_wp2_with ((go_at_call 137;refine HC.out.mono ?_;rintro en w' ⟨rfl,rfl⟩))
    go_round
    case rel=>exact⟨e,j,k,by omega,HK,hjk,by omega,rfl,rfl,by rw[Value.int.injEq];exact⟨rfl,by omega⟩⟩
    case measure=>simp[intOf];omega
   ·go_wp2_with ((go_at_call 137;refine HC.out.mono ?_;rintro en w' ⟨rfl,rfl⟩))
    go_round
    case rel=>exact⟨e,j-k,k,by omega,HK,by omega,by omega,by go_num,by go_num,by rw[Value.int.injEq];exact⟨rfl,by omega⟩⟩
    case measure=>simp[intOf];omega
abbrev nmc(n:Nm):List Value:=[B n.b0,B n.b1,B n.b2,B n.b3,B n.b4,B n.b5,B n.b6,B n.b7]
theorem Cm(l:List Nm):∀n∈l,(nmc n).length=8:=fun _ _=>rfl
theorem Ac{P:Program}{fn:Func}{p u:Tmp}{ty:TypeId}(h:fn.results=#[.cell p ty,.tmp u])(tmps:Array Value)(w:World)(g:Nat)(t:TypeId)(cs:Array Value)(fr:Nat×Nat)(d:TypeDesc)(hp:tmps.getD p undef= .pointer (some ⟨g,0,none⟩))(hg:w.heap[g]? =some (.cells cs t fr))(hu:P.underlying ty=some d)(hd:(match d with |.struct _|.array _ _=>true|_=>false)=true)(hi:(P.info? ty).map (·.size)=some cs.size):(results fn tmps).run P w= .ok (.tuple #[.agg cs,tmps.getD u undef]) w:=by
 rw[results_cell_tmp h,hp];simp[asAddr,Sem.run_pure,Result.andThen,run_loadVar_row w g t ty cs fr d hg hu hd hi]
def IB(l:List UInt8):List Nat:=l.flatMap fun b=>[b.toNat/16,b.toNat%16]
def IC(l:List UInt8):Nat:=(l.map fun b=>b.toNat/16+b.toNat%16).sum
def Fx(m:Nm):List Nat:=IB m.bytes++[(240-IC m.bytes)/16,(240-IC m.bytes)%16]
abbrev N(n:Nat):Value:=.int .i64 (n:Int)
theorem QU(l:List UInt8)(b:UInt8):IB (l++[b])=IB l++[b.toNat/16,b.toNat%16]:=by simp[IB]
theorem QV(l:List UInt8)(b:UInt8):IC (l++[b])=IC l+(b.toNat/16+b.toNat%16):=by simp[IC]
theorem Lq:∀l:List UInt8,IC l<=30*l.length
 |[]=>by simp[IC]
 |b::r=>by
  have h:=Lq r;have hb:=b.toNat_lt;simp only[IC,List.map_cons,List.sum_cons,Ag]at*;omega
theorem Iy:∀l:List UInt8,(IB l).length=2*l.length
 |[]=>rfl
 |b::r=>by
  have h:=Iy r;simp only[IB,List.flatMap_cons,AI,Ag,List.length_nil]at*;omega
theorem PE:∀(l:List UInt8) (d:Nat),d∈IB l->d<=15
 |[],d,h=>by simp[IB]at h
 |b::r,d,h=>by
  have hb:=b.toNat_lt;simp only[IB,List.flatMap_cons,AP,List.mem_cons,List.not_mem_nil,or_false]at h;rcases h with(h|h)|h
  ·omega
  ·omega
  ·exact PE r d (by simpa[IB]using h)
theorem Kf(m:Nm):(Fx m).length=18:=by simp[Fx,Iy,Nm.bytes]
theorem QW(m:Nm)(d:Nat)(h:d∈Fx m):d<=15:=by
 have hs:=Lq m.bytes;have hl:m.bytes.length=8:=rfl;simp only[Fx,AP,List.mem_cons,List.not_mem_nil,or_false]at h;rcases h with h|h|h
 ·exact PE _ d h
 ·omega
 ·omega
theorem Gm{α:Type}(l:List α)(k:Nat)(h:k<l.length):l.take (k+1)=l.take k++[l[k]]:=List.take_succ_eq_append_getElem h
def Fy(v:Nm)(c p:Nat):Nat->Nm
 |0=>v
 |n+1=>D3 (33::((Fy v c p n).bytes++[UInt8.ofNat c,UInt8.ofNat (p+n)]))
def VC(l:List Nm):Nm:=D3 (34::l.flatMap Nm.bytes)
abbrev BG:Array Value:=#[.int .u8 0,.int .u8 0,.int .u8 0,.int .u8 0,.int .u8 0,.int .u8 0,.int .u8 0,.int .u8 0]
theorem J2(n:Nat)(h:n<=255):B (UInt8.ofNat n)= .int .u8 (n:Int):=by
 rw[Value.int.injEq];refine⟨rfl,?_⟩;simp;omega
theorem Di{w w1 w2:World}(hb:Wx w w1)(hg:w1.grownBy w2 none):Wx w w2:=hb.grown hg hb.size (by rintro k ⟨⟩)
theorem Mq(v:Nm)(c p q:Nat)(w:World)(hc:c<=255)(hpq:p<=q)(hq:q<=255):Calls prog 188 #[v.val,.int .i64 (c:Int),.int .i64 (p:Int),.int .i64 (q:Int)] w (BW w (Fy v c p (q-p))):=by
 obtain⟨i0,hi,hz0,hz1,hz2⟩:=info_parts Bz;go_enter func188,ntmps188;go_wp2;have hX:Blk ((w.alloc (Obj.cells v.cells 24)).alloc (Obj.cells BG 24)) w.heap.size 24 v.cells:=(Blk.new w _ _).alloc _;have hR:Blk ((w.alloc (Obj.cells v.cells 24)).alloc (Obj.cells BG 24)) (w.heap.size+1) 24 BG:=by
  have:=Blk.new (w.alloc (Obj.cells v.cells 24)) 24 BG;simpa using this
 have hbW:Wx w ((w.alloc (Obj.cells v.cells 24)).alloc (Obj.cells BG 24)):=((AC _ _).alloc (AB _) _).alloc (by simp) _;generalize ((w.alloc (Obj.cells v.cells 24)).alloc (Obj.cells BG 24))=W at*
 go_loopw [13] (fun i wr=>∃k:Nat,k<=q-p/\i= .int .i64 k/\Blk wr w.heap.size 24 (Fy v c p k).cells/\Blk wr (w.heap.size+1) 24 BG/\Wx w wr)
  (fun i _=>q-(intOf i).toNat)
 case atStart=>exact⟨0,by omega,rfl,hX,hR,hbW⟩
 case round=>
  clear hX hR hbW;obtain⟨k,hk,rfl,hX,hR,hb⟩:=hrel;by_cases hlt:k<q-p
  ·obtain⟨r,hr⟩:=Wr (Fy v c p (k+1));have hr2:D3 (33::((Fy v c p k).bytes++[UInt8.ofNat c,UInt8.ofNat (p+k)]))=r:=by rw[hr];rfl
   have Hr:=AA hr;clear hr;have Hr2:=AA hr2;clear hr2;generalize Fy v c p k=x at*;have hb1:=J2 c hc;have hb2:=J2 (p+k) (by omega);generalize UInt8.ofNat c=b1 at*;generalize UInt8.ofNat (p+k)=b2 at*;have HB1:=AA hb1;clear hb1;have HB2:=AA hb2;clear hb2;have hFy:k+p<q:=by omega
   have hDC:=hX.lt;go_wp2_with (at_builtin;refine wpList_append_grows _ rfl (.tmp 16) (.tmp 23) _ rfl 5 i0 (.int .u8 0) 1 1 underlying60 hi hz0 hz1 hz2 rfl (by decide) (some ⟨w.heap.size,0,none⟩) 8 8 (x.bytes.map B) rfl ?r0 rfl ?r1 ⟨wr.heap.size,0,none⟩ 2 2 [B b1,B b2] rfl rfl ?r2 ?r3 ?r4 ?r5 ?r6 ?_)
   case r0=>intro h;cases h
   case r1=>
    intro b hbe j u hu;injection hbe with hbe;subst hbe
    rw[Addr.add_mid,Nat.zero_add,(hX.alloc _).cell];simpa[Nm.bytes]using hu
   case r2=>
    intro j u hu;rw[Addr.add_mid,Nat.zero_add,(Blk.new wr _ _).cell,<-hu,HB1.out,HB2.out];simp
   case r3=>intro u hu;simp at hu;rcases hu with rfl|rfl <;> rfl
   case r4=>omega
   case r5=>unfold maxLen;omega
   case r6=>omega
   intro v2 w2 xG hg2;have hX2:=(hX.alloc _).kept hg2 (by simp);have hR2:=(hR.alloc _).kept hg2 (by simp);have hb2:=Di (hb.alloc hb.size _) hg2;have e:x.bytes.map B++[B b1,B b2]=(x.bytes++[b1,b2]).map B:=by simp
   rw[e]at xG;obtain⟨A2,c2,rfl⟩:=BD xG;have xN:Calls prog 50 #[.int .u8 33,.slice A2 (8+2) c2] w2 (BW w2 r):=CB 33 A2 c2 (x.bytes++[b1,b2]) r w2 (Rd.of_own xG) (by simp[Nm.bytes]) Hr2.out;have HC:=AA xN;clear xN e xG hg2 hX hR hb;go_wp2_with fail
   refine HC.out.mono ?_;rintro en w3 ⟨rfl,hb3⟩;have hX3:=hX2.below hb3 hX2.lt;have hR3:=hR2.below hb3 hR2.lt;have xT:=hb2.trans (hb3.mono hb2.size);clear hX2 hR2 hb2 hb3 HC;go_wp2_with (refine AJ rfl 24 (.tmp 4) (.tmp 25) rfl w.heap.size _ rfl rfl 24 _ hX3 rfl Ap ?s2 ?_)
   case s2=>exact⟨rfl,rfl,rfl,rfl,rfl,rfl,rfl,rfl⟩
   intro w4 hX4 hg4 hs4;have xI:Wx w w4:=xT.grown hg4 xT.size (by rintro j ⟨⟩;omega);have hR4:=hR3.kept hg4 (by simp);clear hX3 hR3 xT hg4 hs4;go_wp2;go_roundw
   case rel=>exact⟨k+1,by omega,by go_num,by rw[<-Hr.out];exact hX4,hR4,xI⟩
   case measure=>simp[intOf];omega
  ·have hkq:q-p=k:=by omega
   have h1:k+p<=q:=by omega
   have h2:q<=k+p:=by omega
   have Hk:=AA hkq;clear hkq hlt hk;obtain⟨x,hx⟩:=Wr (Fy v c p k);rw[<-hx]at hX;have Hx:=AA hx;clear hx;have hDC:=hX.lt;go_wp2_with (first
    |(refine wpList_load_row rfl 24 _ rfl w.heap.size rfl 24 x.cells (0,0) _ hX underlying24 rfl Ap ?_)
    |(refine AJ rfl 24 (.tmp 8) (.tmp 27) rfl (w.heap.size+1) _ rfl rfl 24 _ hR rfl Ap ?s3 ?_))
   case s3=>exact⟨rfl,rfl,rfl,rfl,rfl,rfl,rfl,rfl⟩
   intro w4 hR4 hg4 hs4;go_wp2;have xI:Wx w w4:=hb.grown hg4 hb.size (by rintro j ⟨⟩;omega);exact bodyPost_ret (results_cell_row (g:=w.heap.size+1) rfl _ _ _ _ _ _ rfl hR4 underlying24 rfl Ap) rfl ⟨by rw[Hk.out,<-Hx.out],xI⟩
theorem nmb(l:List Nm):l.flatMap nmc=(l.flatMap Nm.bytes).map B:=by
 induction l with
 |nil=>rfl
 |cons a r ih=>rw[List.flatMap_cons,List.flatMap_cons,Ad,ih];rfl
theorem PF(l:List Nm)(k:Nat)(x:Nm)(h:l[k]? =some x):(l.take (k+1)).flatMap Nm.bytes=(l.take k).flatMap Nm.bytes++x.bytes:=by
 obtain⟨hk,rfl⟩:=AF.1 h;rw[Gm l k hk,Af];simp
theorem VD(l:List Nm):(l.flatMap Nm.bytes).length=8*l.length:=by
 induction l with
 |nil=>rfl
 |cons a r ih=>rw[List.flatMap_cons,AI,ih,Ag];simp[Nm.bytes];omega
theorem PG{w:World}{base e size n:Nat}{v:Value}{xs:List Value}(h:w.ownsRow base e size v n xs):v.ownBlock=none∨v.ownBlock≠some w.heap.size:=
 .inr fun hv=>by have:=(h.lt _ hv).2;omega
theorem Rd.name{w:World}{B':Nat}{A:Option Addr}{l:List Nm}(h:Rd w B' A (l.flatMap nmc)){k:Nat}{x:Nm}(hk:l[k]? =some x):∃b o,A=some ⟨b,o,none⟩/\b<B'/\∀j u,x.cells[j]? =some u->w.cell? ⟨b,o+k*8+j,none⟩=some u:=by
 have xp:=(AF.1 hk).1;obtain⟨b,o,rfl,hb,hc⟩:=h.cells (by
  intro e;have:=AY nmc 8 l (Cm l);rw[e]at this;simp at this;omega)
 refine⟨b,o,rfl,hb,fun j u hu=>?_⟩;have hj:j<8:=(Aa.1 hu).1;rw[Nat.add_assoc];refine hc _ u ?_;rw[CN nmc 8 l (Cm l) k j x hk hj,<-hu];simp
theorem N3(A:Option Addr)(c:Nat)(l:List Nm)(w:World)(hr:Rd w w.heap.size A (l.flatMap nmc))(xQ:l.length<=1000):Calls prog 190 #[.slice A l.length c] w (BW w (VC l)):=by
 have hmk:∀W:World,(Instr.makeSlice 60 (.int .i64 0) (.int .i64 144)).run prog W= .ok (.slice (some ⟨W.heap.size,0,none⟩) 0 144) (W.alloc (.cells (Array.replicate 144 (.int .u8 0)) 5)):=fun W=>by kernel_rfl
 have HR:=AA hr;clear hr;obtain⟨hBI,hz⟩:=Wr (Array.replicate 144 (Value.int .u8 0));rw[<-hz]at hmk;have hzs:hBI.size=144:=by rw[hz];simp
 have Hz:=AA hzs;clear hz hzs;go_enter func190,ntmps190;go_wp2;clear hmk;have hR:Blk ((w.alloc (Obj.cells BG 24)).alloc (Obj.cells hBI 5)) w.heap.size 24 BG:=(Blk.new w _ _).alloc _;have xB:((w.alloc (Obj.cells BG 24)).alloc (Obj.cells hBI 5)).ownsRow w.heap.size 5 1 (.slice (some ⟨w.heap.size+1,0,none⟩) 0 144) 0 (([]:List UInt8).map B):=by
  have h:=World.ownsRow_made (base:=w.heap.size) (e:=5) (size:=1) (w.alloc (Obj.cells BG 24)) hBI 144 (by simp) (by unfold maxLen;omega) (by rw[Hz.out]);simpa using h
 have hbW:Wx w ((w.alloc (Obj.cells BG 24)).alloc (Obj.cells hBI 5)):=((AC _ _).alloc (AB _) _).alloc (by simp) _;generalize ((w.alloc (Obj.cells BG 24)).alloc (Obj.cells hBI 5))=W at*
 go_loopw [3,9] (fun v i wr=>∃k:Nat,k<=l.length/\i= .int .i64 k/\wr.ownsRow w.heap.size 5 1 v (8*k) (((l.take k).flatMap Nm.bytes).map B)/\Blk wr w.heap.size 24 BG/\Wx w wr)
  (fun _ i _=>l.length-(intOf i).toNat)
 case atStart=>exact⟨0,by omega,rfl,xB,hR,hbW⟩
 case round=>
  clear xB hR hbW;obtain⟨k,hk,rfl,xB,hR,hb⟩:=hrel;by_cases hlt:k<l.length
  ·obtain⟨x,hx⟩:∃x,l[k]? =some x:=⟨_,AE hlt⟩;have e1:=PF l k x hx;have E1:=AA e1;clear e1;obtain⟨b,o,rfl,hbk,xH⟩:=Rd.name (HR.out.below hb) hx;generalize List.flatMap Nm.bytes (l.take k)=bs at*;have Hx:=AA hx;clear hx;have hD9:=AA xH;clear xH;go_wp2_with (first
    |(refine Fr rfl 24 _ rfl b (o+k*8) rfl x.cells _ hD9.out underlying24 rfl Ap ?_)
    |(refine AJ rfl 24 (.tmp 5) (.tmp 12) rfl wr.heap.size _ rfl rfl 24 _ (Blk.new wr _ _) rfl Ap ?s1 ?_))
   case s1=>exact⟨rfl,rfl,rfl,rfl,rfl,rfl,rfl,rfl⟩
   intro w2 hV2 hg2 hs2;have xG:=(xB.alloc _).kept hg2 (PG xB);have hR2:=(hR.alloc _).kept hg2 (by have:=hR.lt;simp;omega);have hb2:Wx w w2:=(hb.alloc hb.size _).grown hg2 (by have:=hb.size;simp;omega) (by rintro j ⟨⟩;exact hb.size);clear xB hR hb hg2;have hBL:=hV2.lt;clear hs2;go_wp2_with (at_builtin;refine Ar rfl (.tmp 13) (.tmp 14) _ rfl w.heap.size 5 (.int .u8 0) 1 1 underlying60 Bz rfl (by decide) _ (8*k) _ rfl xG w2.heap.size _ 8 8 (x.bytes.map B) rfl rfl ?r1 ?r2 ?r3 ?r4 ?r5 ?_)
   case r1=>
    have h:=Rd.of_blk hV2 0 8;simpa[Nm.bytes]using h
   case r2=>exact fun u hu=>B7 hu
   case r3=>omega
   case r4=>unfold maxLen;omega
   case r5=>exact hb2.size
   intro v3 w3 xC hg3 zO;have hb3:=BO hb2 xG hg3;have hR3:=hR2.kept hg3 (CO xG hR2 (by decide));clear xG hb2 hR2 hV2 hBL hg3 zO;go_wp2;go_roundw
   case rel=>exact⟨k+1,by omega,by go_num,by rw[E1.out,Ad];exact xC,hR3,hb3⟩
   case measure=>simp[intOf];omega
  ·obtain rfl:k=l.length:=by omega
   rw[AT (AB _)]at xB;obtain⟨r,hr⟩:=Wr (VC l);have hr2:D3 (34::l.flatMap Nm.bytes)=r:=hr.symm;have Hr:=AA hr;clear hr;have Hr2:=AA hr2;clear hr2;have hbl:=VD l;obtain⟨A2,c2,rfl⟩:=BD xB;have xN:Calls prog 50 #[.int .u8 34,.slice A2 (8*l.length) c2] wr (BW wr r):=by
    rw[<-hbl];exact CB 34 A2 c2 (l.flatMap Nm.bytes) r wr (by rw[<-hbl]at xB;exact Rd.of_own xB) (by rw[hbl];omega) Hr2.out
   have HC:=AA xN;clear xN xB hbl;go_wp2_with fail
   refine HC.out.mono ?_;rintro en w3 ⟨rfl,hb3⟩;have hR3:=hR.below hb3 hR.lt;have xT:=hb.trans (hb3.mono hb.size);clear hR hb hb3 HC;go_wp2_with (refine AJ rfl 24 (.tmp 2) (.tmp 18) rfl w.heap.size _ rfl rfl 24 _ hR3 rfl Ap ?s2 ?_)
   case s2=>exact⟨rfl,rfl,rfl,rfl,rfl,rfl,rfl,rfl⟩
   intro w4 hR4 hg4 hs4;have xI:Wx w w4:=xT.grown hg4 xT.size (by rintro j ⟨⟩;omega);go_wp2;exact bodyPost_ret (results_cell_row (g:=w.heap.size) rfl _ _ _ _ _ _ rfl hR4 underlying24 rfl Ap) rfl ⟨by rw[<-Hr.out],xI⟩
def Bb(w:World)(g n:Nat)(l:List Nm):Prop:=∃cur:List Value,Blk w g 24 cur.toArray/\cur.length=8*n/\cur.take (8*l.length)=l.flatMap nmc
section
variable {w w':World}{g n:Nat}{l:List Nm}
theorem Bb.lt(h:Bb w g n l):g<w.heap.size:=by obtain⟨cur,hB,_⟩:=h;exact hB.lt
theorem Bb.below{B':Nat}(h:Bb w g n l)(hb:Below B' w w')(hg:g<B'):Bb w' g n l:=by obtain⟨cur,hB,r⟩:=h;exact⟨cur,hB.below hb hg,r⟩
theorem Bb.kept{row:Option Nat}(h:Bb w g n l)(hb:w.grownBy w' row)(hg:some g≠row):Bb w' g n l:=by obtain⟨cur,hB,r⟩:=h;exact⟨cur,hB.kept hb hg,r⟩
theorem Bb.rd(h:Bb w g n l):Rd w w.heap.size (some ⟨g,0,none⟩) (l.flatMap nmc):=by
 obtain⟨cur,hB,_,ht⟩:=h;have:=Rd.of_blk hB 0 (8*l.length);rw[List.drop_zero]at this;simp only at this;rw[ht]at this;exact this
end
theorem Lr(cur:List Value)(n:Nat)(l:List Nm)(x:Nm)(hl:cur.length=8*n)(ht:cur.take (8*l.length)=l.flatMap nmc)(hn:l.length<n):(splice cur (l.length*8) (nmc x)).length=8*n/\(splice cur (l.length*8) (nmc x)).take (8*(l++[x]).length)=(l++[x]).flatMap nmc:=by
 have h8:(nmc x).length=8:=rfl;have e:l.length*8=8*l.length:=Nat.mul_comm _ _;refine⟨by rw[length_splice _ _ _ (by rw[h8];omega)];exact hl,?_⟩;unfold splice;rw[e,ht,Af,<-List.append_assoc,List.take_append_of_le_length (by
  rw[AI,AI,AY nmc 8 l (Cm l),h8];simp;omega),AT (by
  rw[AI,AI,AY nmc 8 l (Cm l),h8];simp;omega)]
 simp
theorem Bb.zero(w:World)(cs:Array Value)(n:Nat)(h:cs.size=8*n):Bb (w.alloc (.cells cs 24)) w.heap.size n []:=
 ⟨cs.toList,by simpa using Blk.new w 24 cs,by simpa using h,by simp⟩
theorem ID(g:Nat)(t:TypeId):∀(vs:List Value) (o:Nat) (w:World) (cur:List Value),Blk w g t cur.toArray->o+vs.length<=cur.length->
  Blk (w.setCells g o vs) g t (splice cur o vs).toArray
 |[],o,w,cur,h,_=>by simpa[World.setCells,splice]using h
 |v::r,o,w,cur,h,hl=>by
  rw[World.setCells];have hl':o+(r.length+1)<=cur.length:=by simpa using hl
  have h1:=h.put o v;have e:cur.toArray.setIfInBounds o v=(cur.set o v).toArray:=by simp
  rw[e]at h1;have h2:=ID g t r (o+1) (w.setCell ⟨g,o,none⟩ v) (cur.set o v) h1 (by simp;omega);have e2:splice (cur.set o v) (o+1) r=splice cur o (v::r):=by
   unfold splice;rw[List.take_set,List.drop_set,if_pos (by omega),Ag,show o+(r.length+1)=o+1+r.length from by omega];rw[Gm cur o (by omega),List.set_append_right _ _ (by simp;omega)];simp[Nat.min_eq_left (show o<=cur.length by omega)]
  rw[<-e2];exact h2
theorem J3{w:World}{g n:Nat}{l:List Nm}(x:Nm)(h:Bb w g n l)(hn:l.length<n):Bb (w.setCells g (l.length*8) (nmc x)) g n (l++[x]):=by
 obtain⟨cur,hB,hl,ht⟩:=h;obtain⟨h1,h2⟩:=Lr cur n l x hl ht hn;exact⟨_,ID g _ (nmc x) _ w cur hB (by rw[show(nmc x).length=8 from rfl];omega),h1,h2⟩
theorem DQ{P:Program}{ops:Array Oper}{rest:List Oper}{op:Oper}{a:Act}{w:World}{Q:Exit->Act->World->Prop}(hgd:op.guard=none)(ty:TypeId)(x y:Operand)(ho:op.op= .store ty x y)(g n k:Nat)(l:List Nm)(nm:Nm)(hx:a.eval x= .pointer (some ⟨g,k*8,none⟩))(hy:a.eval y=nm.val)(hB:Bb w g n l)(hk:l.length=k)(hn:k<n)(hi:(P.info? ty).map (·.size)=some 8)(h:∀w',Bb w' g n (l++[nm])->w.grownBy w' (some g)->w'.heap.size=w.heap.size->wpList P ops Q rest (a.put op.dst undef) w'):wpList P ops Q (op::rest) a w:=by
 subst hk;obtain⟨cur,hC,hl,ht⟩:=hB;have hth:w.there g (l.length*8) 8:=fun j hj=>⟨by
  rw[hC.cell,Array.getElem?_eq_getElem (by simp;omega)];rfl,hC.frozen _⟩
 refine wpList_store_mid hgd ty x y ho g (l.length*8) nm.cells hx hy hth hi (Array.all_eq_true_iff_forall_mem.2 fun v hv=>B7 (l:=nm.bytes) (by simpa[Nm.bytes]using hv)) ?_;obtain⟨_,h4,h5⟩:=Cr g 24 nm.cells.toList (l.length*8) w _ hC;exact h _ (J3 nm ⟨cur,hC,hl,ht⟩ hn) h4 h5
theorem Dj:(prog.info? 24).map (fun i=>(i.zero,i.size,i.bytes))=some (some (Nm.val ⟨0,0,0,0,0,0,0,0⟩),8,8):=by kernel_rfl
def K7(w:World)(n:Nat)(l:List Nm)(e:Ending)(w':World):Prop:=∃g,e= .returned (.slice (some ⟨g,0,none⟩) n n)/\Bb w' g n l/\Wx w w'
theorem Mr:(prog.info? 3).map (fun i=>(i.zero,i.size,i.bytes))=some (some (.int .i64 0),1,8):=by kernel_rfl
theorem ixn(n:Nm)(k:Nat)(hk:k<n.bytes.length)(w:World):(Instr.index 24 n.val (.int .i64 (k:Int))).run prog w= .ok (B n.bytes[k]) w:=by
 have h8:k<8:=hk;rcases(by omega:k=0∨k=1∨k=2∨k=3∨k=4∨k=5∨k=6∨k=7)with rfl|rfl|rfl|rfl|rfl|rfl|rfl|rfl
 ·exact ix0 _ _ _ _ _ _ _ _ w
 ·exact ix1 _ _ _ _ _ _ _ _ w
 ·exact ix2 _ _ _ _ _ _ _ _ w
 ·exact ix3 _ _ _ _ _ _ _ _ w
 ·exact ix4 _ _ _ _ _ _ _ _ w
 ·exact ix5 _ _ _ _ _ _ _ _ w
 ·exact ix6 _ _ _ _ _ _ _ _ w
 ·exact ix7 _ _ _ _ _ _ _ _ w
theorem SF(b:UInt8):bits .and .u8 (b.toNat:Int) 15=((b.toNat%16:Nat):Int):=by
 have hb:=b.toNat_lt;show IntKind.u8.wrap ((BitVec.ofInt 8 (b.toNat:Int)&&& BitVec.ofInt 8 15).toNat:Int)=_;rw[BitVec.toNat_and,BitVec.ofInt_natCast,BitVec.toNat_ofNat,Nat.mod_eq_of_lt (by omega),show(BitVec.ofInt 8 15).toNat=2^4-1 from rfl,Nat.and_two_pow_sub_one_eq_mod,IntKind.wrap_u8];omega
theorem QX(n:Nat)(hn:n<=1000000):bits .and .i64 (n:Int) 15=((n%16:Nat):Int):=by
 show IntKind.i64.wrap ((BitVec.ofInt 64 (n:Int)&&& BitVec.ofInt 64 15).toNat:Int)=_;rw[BitVec.toNat_and,BitVec.ofInt_natCast,BitVec.toNat_ofNat,Nat.mod_eq_of_lt (by omega),show(BitVec.ofInt 64 15).toNat=2^4-1 from rfl,Nat.and_two_pow_sub_one_eq_mod,IntKind.wrap_i64];omega
theorem N4(m:Nm)(w:World):Calls prog 256 #[m.val] w (CX w 3 1 18 ((Fx m).map N)):=by
 have hmk:∀W:World,(Instr.makeSlice 114 (.int .i64 0) (.int .i64 18)).run prog W= .ok (.slice (some ⟨W.heap.size,0,none⟩) 0 18) (W.alloc (.cells (Array.replicate 18 (.int .i64 0)) 3)):=fun W=>by kernel_rfl
 go_enter func256,ntmps256;go_wp2_with (refine wpList_load_row rfl 24 _ rfl w.heap.size rfl 24 m.cells (0,0) _ ((Blk.new w _ _).alloc _) underlying24 rfl Ap ?_)
 clear hmk
 go_loopw [3,4,11] (fun v r i wr=>∃k:Nat,k<=8/\i= .int .i64 k/\r= .int .i64 ((240-IC (m.bytes.take k):Nat):Int)/\wr.ownsRow w.heap.size 3 1 v (2*k) ((IB (m.bytes.take k)).map N)/\Wx w wr)
  (fun _ _ i _=>8-(intOf i).toNat)
 case atStart=>
  refine⟨0,by omega,rfl,rfl,?_,?_⟩
  ·have h:=World.ownsRow_made (base:=w.heap.size) (e:=3) (size:=1) (w.alloc (.cells m.cells 24)) (Array.replicate 18 (.int .i64 0)) 18 (by simp) (by unfold maxLen;omega) (by simp);simpa[IB]using h
  ·exact((AC _ _).alloc (AB _) _).alloc (by simp) _
 case round=>
  obtain⟨k,hk,rfl,rfl,xB,hb⟩:=hrel;have hS:IC (m.bytes.take k)<=30*(m.bytes.take k).length:=Lq _;have hl:(m.bytes.take k).length<=k:=List.length_take_le _ _;by_cases hlt:k<8
  ·have hk8:k<m.bytes.length:=hlt;have hix:=ixn m k hk8;simp only[Nm.val]at hix;have e1:=Gm m.bytes k hk8;have e2:=QV (m.bytes.take k) m.bytes[k];have e3:=QU (m.bytes.take k) m.bytes[k];rw[<-e1]at e2 e3;have E2:=AA e2;have E3:=AA e3;clear e1 e2 e3;generalize m.bytes[k]=b at*;generalize m.bytes.take k=tk at*;have hb8:=b.toNat_lt;have h15:=SF b;have h15':bits .and .u8 (b.toNat:Int) 15=(b.toNat:Int)%16:=by rw[h15];omega
   clear h15;obtain⟨S,hSe⟩:=Wr (IC tk);rw[<-hSe]at hS;rw[<-hSe]at E2;rw[<-hSe];clear hSe;go_wp2_with (at_builtin;refine Ar rfl (.tmp 20) (.tmp 23) _ rfl w.heap.size 3 (.int .i64 0) 1 8 underlying114 Mr rfl (by decide) _ (2*k) _ rfl (xB.alloc _) (wr.heap.size+1) _ 2 2 [N (b.toNat/16),N (b.toNat%16)] rfl rfl ?r1 ?r2 ?r3 ?r4 ?r5 ?_)
   case r1=>
    have h:=Rd.of_blk (Blk.new wr 3 #[N (b.toNat/16),N (b.toNat%16)]) 0 2;simpa[N]using h
   case r2=>intro u hu;simp at hu;rcases hu with rfl|rfl <;> rfl
   case r3=>omega
   case r4=>unfold maxLen;omega
   case r5=>have:=hb.size;simp;omega
   intro v2 w2 xG hg2 hAY;have hb2:Wx w w2:=BO (hb.alloc hb.size _) (xB.alloc _) hg2;clear hAY hg2 xB hix;go_wp2;go_roundw
   case rel=>
    refine⟨k+1,by omega,by go_num,?_,?_,hb2⟩
    ·rw[E2.out];go_num
    ·rw[E3.out,Ad];exact xG
   case measure=>simp[intOf];omega
  ·obtain rfl:k=8:=by omega
   have hbb:m.bytes.take 8=m.bytes:=rfl;rw[hbb]at xB hS hl;rw[hbb];clear hbb;have e0:Fx m=IB m.bytes++[(240-IC m.bytes)/16,(240-IC m.bytes)%16]:=rfl;have E0:=AA e0;clear e0;generalize IB m.bytes=dl at*;obtain⟨S,hSe⟩:=Wr (240-IC m.bytes);rw[<-hSe]at E0;rw[<-hSe];have hS2:S<=240:=by omega
   have h15:bits .and .i64 (S:Int) 15=(S:Int)%16:=by rw[QX S (by omega)];omega
   clear hS hl hSe;go_wp2_with (at_builtin;refine Ar rfl (.tmp 31) (.tmp 36) _ rfl w.heap.size 3 (.int .i64 0) 1 8 underlying114 Mr rfl (by decide) _ (2*8) _ rfl (xB.alloc _) (wr.heap.size+1) _ 2 2 [N (S/16),N (S%16)] rfl rfl ?q1 ?q2 ?q3 ?q4 ?q5 ?_)
   case q1=>
    have h:=Rd.of_blk (Blk.new wr 3 #[N (S/16),N (S%16)]) 0 2;simpa[N]using h
   case q2=>intro u hu;simp at hu;rcases hu with rfl|rfl <;> rfl
   case q3=>omega
   case q4=>unfold maxLen;omega
   case q5=>have:=hb.size;simp;omega
   intro v2 w2 xG hg2 hAY;have hb2:Wx w w2:=BO (hb.alloc hb.size _) (xB.alloc _) hg2;clear hAY hg2 xB;go_wp2;go_ret;obtain⟨A2,c2,rfl⟩:=BD xG;refine⟨A2,c2,rfl,?_,hb2⟩;rw[E0.out,Ad];exact xG
theorem QY{α:Type}{l:List α}{k:Nat}(d:α)(h:k<l.length):l[k]? =some (l.getD k d):=by
 rw[List.getD_eq_getElem?_getD,AE h];rfl
end
section
open Go.RowKit
attribute [local go_sem ↓] Go.wp_at_zero Go.wp_at_succ
theorem FC{u:Value}{l:List Nm}(h:u∈l.flatMap nmc):u.oneCell'=true:=by
 rw[nmb]at h;exact B7 h
theorem Tw{w:World}{base e size n g o c:Nat}{xs:List Value}(h:w.ownsRow base e size (.slice (some ⟨g,o,none⟩) n c) n xs):∃cur,Blk w g e cur:=by
 rcases h.2 with⟨hv,_⟩|⟨g',cap,cur,hv,_,hh,_⟩
 ·cases hv
 ·injection hv with hv
  injection hv with hv
  injection hv with hv
  subst hv;exact⟨_,hh⟩
theorem SG{w:World}{base e size n b:Nat}{v:Value}{xs:List Value}(h:w.ownsRow base e size v n xs)(hb:b<base):some b≠v.ownBlock:=fun e=>by
 have:=(h.lt _ e.symm).1;omega
end
section
open Go.RowKit
theorem Fz(w:World):Calls prog 78 #[.int .i64 2] w fun e w'=>e= .returned (.int .i64 1024)/\w'=w:=by
 go_enter func78,ntmps78;go_wp2;go_ret;exact⟨rfl,rfl⟩
def An(w:World)(b:Bool)(e:Ending)(w':World):Prop:=e= .returned (.bool b)/\Wx w w'
def SH(a b:Vt):Prop:=a.kind=b.kind/\a.parent=b.parent/\a.slot=b.slot/\a.round=b.round/\a.signer=b.signer
instance (a b:Vt):Decidable (SH a b):=by unfold SH;infer_instance
def Ms(a b:Vt):Prop:=a≠b/\SH a b/\AW a/\AW b
instance (a b:Vt):Decidable (Ms a b):=by unfold Ms;infer_instance
def Dc(a b:Nm):Bool:=decide (Dh a.bytes<Dh b.bytes)
def Bf(a b:Vt):Bool:=
 if a.parent=b.parent then
  if a.slot=b.slot then
   if a.round=b.round then
    if a.kind=b.kind then
     if a.signer=b.signer then
      if a.choice=b.choice then
       if a.value=b.value then decide (a.support<b.support)else Dc a.value b.value
      else decide (a.choice<b.choice)
     else decide (a.signer<b.signer)
    else decide (a.kind<b.kind)
   else decide (a.round<b.round)
  else decide (a.slot<b.slot)
 else Dc a.parent b.parent
abbrev Bk:Vt:=⟨0,0,0,0,0,0,Nm.zero,Nm.zero⟩
def Dx(v:Vt):Nm:=D3 (64::Nn v)
theorem Mt(v:Vt):(Nn v).length=23:=by simp[Nn,Nm.bytes]
theorem K8(v:Vt)(w:World)(hv:v.ok)(hy:AW v):Calls prog 113 #[v.val] w (BW w (Dx v)):=by
 have Hy:=AA hy;clear hy;obtain⟨r,hr⟩:=Wr (Dx v);have Hr:=AA hr;clear hr;go_enter func113,ntmps113;go_wp2_with (refine wpList_load_row rfl 46 _ rfl w.heap.size rfl 46 v.cells (0,0) _ ((Blk.new w _ _).alloc _) underlying46 rfl Ia ?_)
 have hR:Blk ((w.alloc (Obj.cells v.cells 46)).alloc (Obj.cells BG 24)) (w.heap.size+1) 24 BG:=by
  have:=Blk.new (w.alloc (Obj.cells v.cells 46)) 24 BG;simpa using this
 have hbW:Wx w ((w.alloc (Obj.cells v.cells 46)).alloc (Obj.cells BG 24)):=((AC _ _).alloc (AB _) _).alloc (by simp) _;generalize ((w.alloc (Obj.cells v.cells 46)).alloc (Obj.cells BG 24))=W at*;refine(Rl v _ hv Hy.out).mono ?_;rintro e w1 ⟨A1,c1,rfl,xB,hb1⟩;have hR1:=hR.below hb1 hR.lt;have yK:=hbW.trans (hb1.mono hbW.size);have xN:Calls prog 50 #[.int .u8 64,.slice A1 23 c1] w1 (BW w1 r):=by
  have h:=CB 64 A1 c1 (Nn v) r w1 (Rd.of_own xB) (by rw[Mt];omega) (by rw[Hr.out];rfl);rw[Mt]at h;exact h
 have HC:=AA xN;clear xN hR hbW hb1 xB;go_wp2_with fail
 refine HC.out.mono ?_;rintro en w3 ⟨rfl,hb3⟩;have hR3:=hR1.below hb3 hR1.lt;have xT:=yK.trans (hb3.mono yK.size);clear hR1 yK hb3 HC;go_wp2_with (refine AJ rfl 24 (.tmp 2) (.tmp 14) rfl (w.heap.size+1) _ rfl rfl 24 _ hR3 rfl Ap ?s2 ?_)
 case s2=>exact⟨rfl,rfl,rfl,rfl,rfl,rfl,rfl,rfl⟩
 intro w4 hR4 hg4 hs4;have xI:Wx w w4:=xT.grown hg4 xT.size (by rintro j ⟨⟩;omega);go_wp2;exact bodyPost_ret (results_cell_row (g:=w.heap.size+1) rfl _ _ _ _ _ _ rfl hR4 underlying24 rfl Ap) rfl ⟨by rw[<-Hr.out],xI⟩
def Gn(w:World)(b:Nat):Nat->Nat->Option (List Value)
 |_,0=>some []
 |o,n+1=>match w.cell? ⟨b,o,none⟩,Gn w b (o+1) n with
  |some u,some r=>some (u::r)
  |_,_=>none
def AK(w:World)(b o n:Nat):Option (Array Value):=(Gn w b o n).map List.toArray
theorem PH{w:World}{b:Nat}:∀(l:List Value) (o:Nat),w.rangeAt b o l->Gn w b o l.length=some l
 |[],_,_=>rfl
 |u::r,o,h=>by
  have h0:w.cell? ⟨b,o,none⟩=some u:=by simpa using h 0 u rfl
  have h1:=PH r (o+1) (fun j v hv=>by
   have:=h (j+1) v (by simpa using hv);rwa[show o+(j+1)=o+1+j from by omega]at this)
  rw[Ag,Gn,h0,h1]
theorem K9{w:World}{b:Nat}:∀(n o:Nat) (l:List Value),Gn w b o n=some l->l.length=n/\w.rangeAt b o l
 |0,o,l,h=>by
  injection h with h;subst h
  exact⟨rfl,fun j v hv=>by simp at hv⟩
 |n+1,o,l,h=>by
  rw[Gn]at h;split at h
  ·rename_i u r hu hr
   injection h with h;subst h
   obtain⟨h1,h2⟩:=K9 n (o+1) r hr;refine⟨by simp[h1],fun j v hv=>?_⟩;cases j with
   |zero=>simp at hv;subst hv;simpa using hu
   |succ j=>
    have:=h2 j v (by simpa using hv);rwa[show o+1+j=o+(j+1)from by omega]at this
  ·cases h
theorem By{w:World}{b o n:Nat}{cs:Array Value}(h:w.rangeAt b o cs.toList)(hn:cs.size=n):AK w b o n=some cs:=by
 subst hn;unfold AK;rw[show cs.size=cs.toList.length from by simp,PH _ _ h];simp
theorem EM{w:World}{b o n:Nat}{cs:Array Value}(h:AK w b o n=some cs):cs.size=n/\w.rangeAt b o cs.toList:=by
 unfold AK at h;cases hr:Gn w b o n with
 |none=>rw[hr]at h;cases h
 |some l=>
  rw[hr]at h;injection h with h;subst h
  obtain⟨h1,h2⟩:=K9 n o l hr;exact⟨by simpa using h1,by simpa using h2⟩
theorem AX(w:World)(b o n:Nat):AK w.drew b o n=AK w b o n:=by
 have:∀n o,Gn w.drew b o n=Gn w b o n:=by
  intro n
  induction n with
  |zero=>intro o;rfl
  |succ n ih=>intro o;rw[Gn,Gn,ih];rfl
 unfold AK;rw[this]
theorem AU(w:World)(k b o n:Nat):AK (w.drewN k) b o n=AK w b o n:=by
 have:∀n o,Gn (w.drewN k) b o n=Gn w b o n:=by
  intro n
  induction n with
  |zero=>intro o;rfl
  |succ n ih=>intro o;rw[Gn,Gn,ih];rfl
 unfold AK;rw[this]
theorem Blk.row{w:World}{g t:Nat}{cs:Array Value}(h:Blk w g t cs)(n:Nat)(hn:cs.size=n):AK w g 0 n=some cs:=
 By (fun j u hu=>by rw[Nat.zero_add,h.cell];simpa using hu) hn
theorem Blk.part{w:World}{g t:Nat}{cs:Array Value}(h:Blk w g t cs)(o:Nat)(ds:Array Value)(hd:∀j u,ds[j]? =some u->cs[o+j]? =some u):AK w g o ds.size=some ds:=
 By (fun j u hu=>by rw[h.cell];exact hd j u (by simpa using hu)) rfl
theorem BC{w w':World}{B' b o n:Nat}{cs:Array Value}(h:AK w b o n=some cs)(hb:Below B' w w')(hg:b<B'):AK w' b o n=some cs:=by
 obtain⟨h1,h2⟩:=EM h;exact By (fun j u hu=>(hb.cell (p:=⟨b,o+j,none⟩) hg).trans (h2 j u hu)) h1
noncomputable def CU(t:TypeId)(p:Value):Sem Value:=Instr.loadAt t p
noncomputable def Tx(t:TypeId)(b o:Nat)(w:World):Result Value:=(Instr.loadAt t (.pointer (some ⟨b,o,none⟩))).run prog w
noncomputable def DB(t:TypeId)(b o:Nat)(w:World):Option (Array Value)->Result Value
 |some cs=>.ok (.agg cs) w
 |none=>Tx t b o w
theorem AR(t:TypeId)(b o:Nat)(w:World)(cs:Array Value):DB t b o w (some cs)= .ok (.agg cs) w:=rfl
theorem CZ(t n b o:Nat)(w:World)(d:TypeDesc)(hu:prog.underlying t=some d)(hd:d.isRow=true)(hi:(prog.info? t).map (·.size)=some n):(CU t (.pointer (some ⟨b,o,none⟩))).run prog w=DB t b o w (AK w b o n):=by
 cases hr:AK w b o n with
 |none=>rfl
 |some cs=>
  obtain⟨h1,h2⟩:=EM hr;have:=run_loadAt_mid (P:=prog) w b o t cs.toList d h2 hu hd (by simpa[h1]using hi);simpa[CU,DB]using this
theorem Aq(p:Value):Instr.loadAt 24 p=CU 24 p:=rfl
theorem Au(p:Value):Instr.loadAt 46 p=CU 46 p:=rfl
theorem Av(p:Value):Instr.loadAt 62 p=CU 62 p:=rfl
theorem Aw(p:Value):Instr.loadAt 125 p=CU 125 p:=rfl
theorem BE(b o:Nat)(w:World):(CU 24 (.pointer (some ⟨b,o,none⟩))).run prog w=DB 24 b o w (AK w b o 8):=CZ _ 8 b o w _ underlying24 rfl Ap
theorem BL(b o:Nat)(w:World):(CU 46 (.pointer (some ⟨b,o,none⟩))).run prog w=DB 46 b o w (AK w b o 22):=CZ _ 22 b o w _ underlying46 rfl Ia
theorem BM(b o:Nat)(w:World):(CU 62 (.pointer (some ⟨b,o,none⟩))).run prog w=DB 62 b o w (AK w b o 23):=CZ _ 23 b o w _ underlying62 rfl (by kernel_rfl)
theorem BN(b o:Nat)(w:World):(CU 125 (.pointer (some ⟨b,o,none⟩))).run prog w=DB 125 b o w (AK w b o 46):=CZ _ 46 b o w _ underlying125 rfl (by kernel_rfl)
theorem Sg.row_vote{w:World}{g t:Nat}(s:Sg)(h:Blk w g t s.cells):AK w g 0 22=some s.vote.cells:=
 Blk.part h 0 s.vote.cells (fun j u hu=>by rw[Nat.zero_add];exact s.cell_vote j u hu)
theorem BU{P:Program}{op:Oper}{a:Act}{w:World}{K:Act->World->Prop}{Q:Exit->Act->World->Prop}(ty:TypeId)(x y:Operand)(ho:op.op= .store ty x y)(g:Nat)(cs:Array Value)(hx:a.eval x= .pointer (some ⟨g,0,none⟩))(hy:a.eval y= .agg cs)(t:TypeId)(old:Array Value)(hB:Blk w g t old)(hsz:old.size=cs.size)(hi:(P.info? ty).map (·.size)=some cs.size)(h1:∀u∈cs.toList,u.oneCell'=true)(hd:op.dst=none)(h:∀w',Blk w' g t cs->w.grownBy w' (some g)->w'.heap.size=w.heap.size->K a w'):op.wp P a w K Q:=by
 have hth:w.there g 0 cs.size:=fun j hj=>⟨by
  rw[Nat.zero_add,hB.cell];rw[Array.getElem?_eq_getElem (by omega)];rfl,hB.frozen _⟩
 refine wp_store_mid ty x y ho g 0 cs hx hy hth hi (Array.all_eq_true_iff_forall_mem.2 fun v hv=>h1 v (by simpa using hv)) ?_;obtain⟨⟨cur',h2,h3⟩,h4,h5⟩:=Cr g t cs.toList 0 w old hB;have e:cur'=cs:=by
  apply Array.ext (by omega);intro i hi1 hi2;have:=World.rangeAt_setCells_same w g 0 cs.toList (by simpa using hth) i cs[i] (by simp[hi2]);rw[Nat.zero_add,h2.cell,Array.getElem?_eq_getElem hi1]at this;exact Option.some.inj this
 subst e;rw[hd];exact h _ h2 h4 h5
theorem Ls{P:Program}{ops:Array Oper}{Q:Exit->Act->World->Prop}{md:Region.Mode}{S:World->Prop}{i:Nat}{oi:Oper}{fuel:Nat}{listed:Array Bool}{a:Act}{w:World}(d:Option Tmp)(hi:ops[i]? =some oi)(hd:oi.dst=d)(hs:Region.noSelect ops=true)(hf:Region.free md ops listed i=true)(hr:(Region.ready md ops listed).contains i=true)(hQ:∀c a w,Q (.panic c) (a.put oi.dst undef) w->Q (.panic c) a w)(hw:Region.wanted oi (yielded ops a.tmps)=false)(hS:S w)(h:wpAnyH P md ops Q S fuel (listed.setIfInBounds i true) (a.put d undef) w):wpAnyH P md ops Q S (fuel+1) listed a w:=by
 subst hd;exact wpAnyH_take hi hs hf hr hQ (Or.inr ⟨hw,rfl⟩) hS h
theorem Ay{P:Program}{ops:Array Oper}{Q:Exit->Act->World->Prop}{md:Region.Mode}{S:World->Prop}{i:Nat}{oi:Oper}{v:Value}{fuel:Nat}{listed:Array Bool}{a:Act}{w:World}(d:Option Tmp)(hi:ops[i]? =some oi)(hd:oi.dst=d)(hs:Region.noSelect ops=true)(hf:Region.free md ops listed i=true)(hr:(Region.ready md ops listed).contains i=true)(hQ:∀c a w,Q (.panic c) (a.put oi.dst v) w->Q (.panic c) a w)(hw:Region.wanted oi (yielded ops a.tmps)=true)(hy:∀w,S w->(execOp a.eval oi).run P w= .ok (.value v) w)(hS:S w)(h:wpAnyH P md ops Q S fuel (listed.setIfInBounds i true) (a.put d v) w):wpAnyH P md ops Q S (fuel+1) listed a w:=by
 subst hd;exact wpAnyH_take hi hs hf hr hQ (Or.inl ⟨hw,hy⟩) hS h
section
variable {P:Program}{ops:Array Oper}{Q:Exit->Act->World->Prop}{md:Region.Mode}{S:World->Prop}{oi o2:Oper}{v:Value}{fuel:Nat}{listed:Array Bool}{a:Act}{w:World}
theorem tkD(d i:Nat)(h:wpAnyH P md ops (NoPanic Q) S fuel (listed.setIfInBounds i true) (a.put (some d) v) w)(hi:ops[i]? =some oi:=by rfl)(hd:oi.dst=some d:=by rfl)(hs:Region.noSelect ops=true:=by kernel_rfl)(hf:Region.free md ops listed i=true:=by kernel_rfl)(hr:(Region.ready md ops listed).contains i=true:=by kernel_rfl)
  (hw:Region.wanted oi (yielded ops a.tmps)=true:=by rfl) (hy:∀w,S w->(execOp a.eval oi).run P w= .ok (.value v) w:=by(intros;go_simp;(try (with_reducible rfl)))) (hS:S w:=by assumption):wpAnyH P md ops (NoPanic Q) S (fuel+1) listed a w:=
 Ay (some d) hi hd hs hf hr (fun _ _ _ h=>h.elim) hw hy hS h
theorem tkA{d i:Nat}(h:wpAnyH P md ops (NoPanic Q) S fuel (listed.setIfInBounds i true) (a.put (some d) v) w)(hn:listed.toList.findIdx? (fun b=>!b)=some i:=by rfl)(hi:ops[i]? =some oi:=by rfl)(hd:oi.dst=some d:=by rfl)(hs:Region.noSelect ops=true:=by kernel_rfl)(hf:Region.free md ops listed i=true:=by kernel_rfl)(hr:(Region.ready md ops listed).contains i=true:=by kernel_rfl)
  (hw:Region.wanted oi (yielded ops a.tmps)=true:=by rfl) (hy:∀w,S w->(execOp a.eval oi).run P w= .ok (.value v) w:=by(intros;go_simp;(try (with_reducible rfl)))) (hS:S w:=by assumption):wpAnyH P md ops (NoPanic Q) S (fuel+1) listed a w:=
 have _t:=hn
 Ay (some d) hi hd hs hf hr (fun _ _ _ h=>h.elim) hw hy hS h
theorem tkV(d i:Nat)(v:Value)(hy:∀w,S w->(execOp a.eval oi).run P w= .ok (.value v) w)(h:wpAnyH P md ops (NoPanic Q) S fuel (listed.setIfInBounds i true) (a.put (some d) v) w)(hi:ops[i]? =some oi:=by rfl)(hd:oi.dst=some d:=by rfl)(hs:Region.noSelect ops=true:=by kernel_rfl)(hf:Region.free md ops listed i=true:=by kernel_rfl)(hr:(Region.ready md ops listed).contains i=true:=by kernel_rfl)
  (hw:Region.wanted oi (yielded ops a.tmps)=true:=by rfl) (hS:S w:=by assumption):wpAnyH P md ops (NoPanic Q) S (fuel+1) listed a w:=
 Ay (some d) hi hd hs hf hr (fun _ _ _ h=>h.elim) hw hy hS h
theorem skD(d i:Nat)(h:wpAnyH P md ops (NoPanic Q) S fuel (listed.setIfInBounds i true) (a.put (some d) undef) w)(hi:ops[i]? =some oi:=by rfl)(hd:oi.dst=some d:=by rfl)(hs:Region.noSelect ops=true:=by kernel_rfl)(hf:Region.free md ops listed i=true:=by kernel_rfl)(hr:(Region.ready md ops listed).contains i=true:=by kernel_rfl)
  (hw:Region.wanted oi (yielded ops a.tmps)=false:=by rfl) (hS:S w:=by assumption):wpAnyH P md ops (NoPanic Q) S (fuel+1) listed a w:=
 Ls (some d) hi hd hs hf hr (fun _ _ _ h=>h.elim) hw hS h
theorem rgD{id:Nat}(S:World->Prop)(hS:S w.drew)(h:S w.drew->wpAnyH P .any ops (NoPanic Q) S ops.size (Array.replicate ops.size false) a w.drew)(hm:P.follows .mixedOrders=true:=by kernel_rfl):(Code.region id ops true).wp P Q a w:=
 wp_region_noPanic (wp_region_held_drew hm hS h)
theorem dnD(h:Q .normal a w)(hr:Region.ready md ops listed=[]:=by kernel_rfl):wpAnyH P md ops (NoPanic Q) S fuel listed a w:=wpAnyH_done hr (NoPanic.normal h) _
theorem rd1(i:Nat)(h:∀K':Act->World->Prop,Shut (∀a w,S w->(S w->wpAnyH P md ops (NoPanic Q) S fuel (listed.setIfInBounds i true) a w)->K' a w)->if Region.wanted oi (yielded ops a.tmps)=true then Oper.wp P oi a w K' (NoPanic Q)else K' (a.put oi.dst undef) w)(hr:Region.ready md ops listed=[i]:=by kernel_rfl)(ho:ops[i]? =some oi:=by rfl):wpAnyH P md ops (NoPanic Q) S (fuel+1) listed a w:=
 wpAnyH_ready hr (by simp) (AllReadyH.cons ho h AllReadyH.nil)
theorem rd2(i j:Nat)(h:∀K':Act->World->Prop,Shut (∀a w,S w->(S w->wpAnyH P md ops (NoPanic Q) S fuel (listed.setIfInBounds i true) a w)->K' a w)->if Region.wanted oi (yielded ops a.tmps)=true then Oper.wp P oi a w K' (NoPanic Q)else K' (a.put oi.dst undef) w)(h2:∀K':Act->World->Prop,Shut (∀a w,S w->(S w->wpAnyH P md ops (NoPanic Q) S fuel (listed.setIfInBounds j true) a w)->K' a w)->if Region.wanted o2 (yielded ops a.tmps)=true then Oper.wp P o2 a w K' (NoPanic Q)else K' (a.put o2.dst undef) w)(hr:Region.ready md ops listed=[i,j]:=by kernel_rfl)(ho:ops[i]? =some oi:=by rfl)(ho2:ops[j]? =some o2:=by rfl):wpAnyH P md ops (NoPanic Q) S (fuel+1) listed a w:=
 wpAnyH_ready hr (by simp) (AllReadyH.cons ho h (AllReadyH.cons ho2 h2 AllReadyH.nil))
end
end
section
open Go.RowKit
attribute [local go_sem ↓] Go.wp_at_zero Go.wp_at_succ Aq Au Av Aw
attribute [local go_sem] BE BL BM BN AR AX AU
def UN(s:Sg):Prop:=s.sig.length<=s.cap/\s.cap<=maxLen
theorem SI(a b:Nm)(w:World)(hne:¬a=b):Calls prog 158 #[a.val,b.val] w (An w (Dc a b)):=by
 have e0:∀W,(Op.equalIn 10000 24 a.val b.val).run prog W= .ok false W:=fun W=>by
  have:=EW a b W 9998;rwa[decide_eq_false hne]at this
 have hA:Blk ((w.alloc (Obj.cells a.cells 24)).alloc (Obj.cells b.cells 24)) w.heap.size 24 a.cells:=(Blk.new w _ _).alloc _;have hB:Blk ((w.alloc (Obj.cells a.cells 24)).alloc (Obj.cells b.cells 24)) (w.heap.size+1) 24 b.cells:=by
  have:=Blk.new (w.alloc (Obj.cells a.cells 24)) 24 b.cells;simpa using this
 have hbW:Wx w ((w.alloc (Obj.cells a.cells 24)).alloc (Obj.cells b.cells 24)):=((AC _ _).alloc (AB _) _).alloc (by simp) _;have x0:=hA.row 8 rfl;have y0:=hB.row 8 rfl;go_enter func158,ntmps158;go_wp2;generalize ((w.alloc (Obj.cells a.cells 24)).alloc (Obj.cells b.cells 24))=W at*;obtain⟨na,hna⟩:=Wr (Dh a.bytes);obtain⟨nb,hnb⟩:=Wr (Dh b.bytes);have HA:Hid (∀W,Calls prog 182 #[a.val] W (GO W na)):=fun W=>by rw[hna];exact Gf a W
 have HB:Hid (∀W,Calls prog 182 #[b.val] W (GO W nb)):=fun W=>by rw[hnb];exact Gf b W
 have hr:Dc a b=decide (na<nb):=by rw[hna,hnb];rfl
 have Hr:=AA hr;clear hr hna hnb
 go_region_held3 (fun w'=>AK w' w.heap.size 0 8=some a.cells/\AK w' (w.heap.size+1) 0 8=some b.cells) (first|exact⟨x2,y2⟩|exact⟨x0,y0⟩)
  ((first
   |(go_at_call 182;(first|(with_reducible refine(HA.out _).mono ?_)|(with_reducible refine(HB.out _).mono ?_));rintro en w2 ⟨rfl,hb2⟩;have hA2:Blk w2 w.heap.size 24 a.cells:=(by first|exact hA2.below hb2 hA2.lt|exact hA.drew.below hb2 hA.lt);have hB2:Blk w2 (w.heap.size+1) 24 b.cells:=(by first|exact hB2.below hb2 hB2.lt|exact hB.drew.below hb2 hB.lt);have xL:Wx w w2:=(by first|exact xL.trans (hb2.mono xL.size)|exact hbW.trans (((AC _ _).drew.trans hb2).mono hbW.size));have x2:=hA2.row 8 rfl;have y2:=hB2.row 8 rfl)))
 all_goals
  go_wp2;go_ret;exact⟨by rw[Hr.out];exact E4 (by simp),xL⟩
theorem FD(a b:Nm)(w:World):Calls prog 158 #[a.val,b.val] w (An w (Dc a b)):=by
 by_cases hne:a=b
 ·subst hne;have e0:∀W,(Op.equalIn 10000 24 a.val a.val).run prog W= .ok true W:=fun W=>by
   have:=EW a a W 9998;rwa[decide_eq_true rfl]at this
  have hr:Dc a a=false:=by simp[Dc]
  have Hr:=AA hr;clear hr;have hA:Blk ((w.alloc (Obj.cells a.cells 24)).alloc (Obj.cells a.cells 24)) w.heap.size 24 a.cells:=(Blk.new w _ _).alloc _;have hB:Blk ((w.alloc (Obj.cells a.cells 24)).alloc (Obj.cells a.cells 24)) (w.heap.size+1) 24 a.cells:=by
   have:=Blk.new (w.alloc (Obj.cells a.cells 24)) 24 a.cells;simpa using this
  have x0:=hA.row 8 rfl;have y0:=hB.row 8 rfl;clear hA hB;go_enter func158,ntmps158;go_wp2;go_ret;exact⟨by rw[Hr.out];rfl,((AC _ _).alloc (AB _) _).alloc (by simp) _⟩
 ·exact SI a b w hne
end
end Go.Proofs.YtadllffeoibelaaGreat
