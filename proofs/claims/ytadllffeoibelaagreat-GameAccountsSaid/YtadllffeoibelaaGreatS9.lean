/-
  Parts of the proof. No condition.
-/
import Derived.Test.YtadllffeoibelaaGreatS8
import Derived.Test.YtadllffeoibelaaGreatS7
open Go.Proofs.Tryz
namespace Go.Proofs.YtadllffeoibelaaGreat
set_option maxRecDepth 100000
set_option maxHeartbeats 32000000
set_option linter.all false
section
open Go.RowKit
attribute [local go_sem ↓] Go.wp_at_zero Go.wp_at_succ Aj
attribute [local go_sem] Ax AK AR AN
theorem Dg{P:Program}(w:World){o:Oper}{a:Act}{K:Act->World->Prop}{Q:Exit->Act->World->Prop}(d:Option Tmp)(hd:o.dst=d)(s x:Operand)(t:TypeId)(hop:o.op=Op.call {callee:=Callee.builtin Builtin.append,args:=#[s,x],argTypes:=#[t,t]})
  (e:TypeId) (i:TypeInfo) (z:Value) (size bytes:Nat) (h1:P.underlying t=some (.slice e)) (h2:P.info? e=some i) (h3:i.zero=some z) (h4:i.size=size) (h5:i.bytes=bytes) (h6:z.cells.size=size) (h7:0<size)
  (ao:Option Addr) (n cap:Nat) (olds:List Value) (hs:a.eval s= .slice ao n cap) (hIS:ao=none->n=0/\cap=0) (hlo:olds.length=n*size) (holds:∀b,ao=some b->∀j u,olds[j]? =some u->w.cell? (b.add j)=some u)
  (ad:Addr) (m c:Nat) (news:List Value) (hx:a.eval x= .slice (some ad) m c) (hn:news.length=m*size) (hc:∀j u,news[j]? =some u->w.cell? (ad.add j)=some u) (h1c:∀u∈news,u.oneCell'=true)
  (hIT:cap<n+m) (b1:n+m<=maxLen) (b2:(n+m)*bytes<=140737488355328)
  (hK:∀v' w',w'.ownsRow w.heap.size e size v' (n+m) (olds++news)->w.grownBy w' none->K (a.put d v') w'):o.wp P a w K Q:=by
 subst hd;cases ao with
 |some b=>
  obtain⟨v',w',xN,r1,r2⟩:=run_append_arg_grows (P:=P) w t o.type e i z size bytes h1 h2 h3 h4 h5 h6 h7 b n cap olds hlo (holds b rfl) ad m c news hn hc hIT b1 b2;unfold Oper.wp;simp[execOp,hop,resolve,invoke,builtin,hs,hx,xN,Result.andThen];exact hK v' w' r1 r2
 |none=>
  obtain⟨rfl,rfl⟩:=hIS rfl;obtain rfl:olds=[]:=AV (by simpa using hlo);obtain⟨v',w',xN,r1,r2,_⟩:=run_append_own (P:=P) w w.heap.size t o.type e i z size bytes h1 h2 h3 h4 h5 h6 h7 (.slice none 0 0) 0 [] (World.ownsRow_nil w _ e size) ad m c news hn hc h1c b1 b2 (AB _);unfold Oper.wp;simp[execOp,hop,resolve,invoke,builtin,hs,hx,xN,Result.andThen];exact hK v' w' r1 r2
theorem IP(A:Option Addr)(c i:Nat)(w:World):Calls prog 255 #[.slice A 1 c,.int .i64 (i:Int)] w fun e w'=>e= .returned (.slice none 0 0)/\w'=w:=by
 go_enter func255,ntmps255;go_wp2;go_ret;exact⟨rfl,rfl⟩
theorem Uy(d i n k c b o:Nat)(p:List Nm)(up:Nm)(w:World)(hp:p.length=d)(hk:k=2^d)(hn:n=2^(d+1))(hd:d<=40)(hik:i<k)(hc:n<=c)(h1:∀W,ZN w W->Calls prog 255 #[.slice (some ⟨b,o,none⟩) k k,.int .i64 (i:Int)] W (Ca W 24 8 d (p.flatMap nmc)))(h2:∀W,ZN w W->Calls prog 91 #[.slice (some ⟨b,o+k*8,none⟩) k (c-k)] W (BM W up)):Calls prog 255 #[.slice (some ⟨b,o,none⟩) n c,.int .i64 (i:Int)] w (Ca w 24 8 (d+1) ((p++[up]).flatMap nmc)):=by
 obtain⟨i0,hi,hz0,hz1,hz2⟩:=info_parts DB;have HP:=AA hp;clear hp;have H1:=AA h1;clear h1;have H2:=AA h2;clear h2;have hk1:1<=k:=by rw[hk];exact Nat.one_le_two_pow
 have hkb:k<=1099511627776:=by rw[hk];exact Nat.pow_le_pow_right (j:=40) (by omega) hd
 have h2k:n=2*k:=by rw[hn,hk,Nat.pow_succ];omega
 have xO:∀W,Calls prog 137 #[.int .i64 (n:Int)] W fun en w'=>en= .returned (.int .i64 (k:Int))/\w'=W:=fun W=>by
  rw[hk];exact DT d n W hn hd
 have HC:=AA xO;clear xO;have zc:((n:Int)==1)=false:=by rw[beq_eq_false_iff_ne];omega
 clear hk hn;subst h2k;have i1:(0:Int)<=(k:Int):=by omega
 have i2:(k:Int)<=(c:Int):=by omega
 have i3:(k:Int)<=((2*k:Nat):Int):=by omega
 have i4:¬c=k:=by omega
 have i5:2*k-k=k:=by omega
 have i6:((2*k:Nat):Int)<=(c:Int):=by omega
 have i7:=ZK (show i<k by omega)
 obtain⟨n,hn⟩:=ZH (2*k);rw[<-hn]at zc HC i3 i5 i6 ⊢;clear hn;go_enter func255,ntmps255;go_upto_region 7 with((go_at_call 137;refine(HC.out _).mono ?_;rintro en w' ⟨rfl,rfl⟩))
 have hR:Blk (w.alloc (Obj.cells At 24)) w.heap.size 24 At:=Blk.new w _ _;have hbW:ZN w (w.alloc (Obj.cells At 24)):=(AC _ _).alloc (AB _) _;generalize (w.alloc (Obj.cells At 24))=W at*;refine rgD (fun _=>True) (trivial) fun _=>?_
 iterate 5 (refine tkA ?_;go_frame)
 refine tkD 23 6 ?_;go_frame;refine tkD 24 7 ?_;go_frame;refine tkD 25 8 ?_;go_frame;refine rd1 5 fun K hK=>?_
 go_simp;refine(H1.out _ hbW.drew).mono ?_;rintro en w2 ⟨A2,c2,rfl,xG,hb2⟩;have yE:=hbW.drew.trans (hb2.mono hbW.size);have hR2:=hR.drew.below hb2 hR.drew.lt;go_wp2_with fail
 refine hK.out _ _ (trivial) (fun _=>?_);clear hK K;try go_frame
 refine rd1 9 fun K hK=>?_
 go_simp;refine(H2.out _ yE).mono ?_;rintro en w3 ⟨rfl,hb3⟩;have xI:=yE.trans (hb3.mono yE.size);have hR3:=hR2.below hb3 hR2.lt;have xD:=Ay xG hb3 (AB _);go_wp2_with fail
 refine hK.out _ _ (trivial) (fun _=>?_);clear hK K;try go_frame
 refine tkD 5 10 ?_;go_frame;refine rd1 11 fun K hK=>?_
 rw[if_pos (by rfl)];refine BN 24 (.tmp 6) (.tmp 26) (by rfl) w.heap.size up.cells (by rfl) (by rfl) 24 At hR3 rfl Ag ?st1 (by rfl) ?_
 case st1=>exact fun u hu=>F6 up hu
 intro w4 hR4 hg4 hs4;refine hK.out _ _ (trivial) (fun _=>?_);clear hK K;try go_frame
 refine dnD ?_;have xE:ZN w w4:=xI.grown hg4 xI.size (by rintro j ⟨⟩;omega);have x4:AJ w4 w.heap.size 0 8=some up.cells:=hR4.row 8 rfl;have hFm:xD.1=xD.1:=rfl;clear hFm;have xZ:=xD.kept hg4 (.inr fun e=>by have:=(xD.lt _ e).1;have:=hbW.size;have:=hR.lt;simp at*;omega);have hnz:A2=none->d=0/\d=0:=fun e=>by
  rcases xZ.2 with⟨hv,h0⟩|⟨g,cap,cur,hv,_⟩
  ·exact⟨h0,h0⟩
  ·injection hv with hA;rw[e]at hA;cases hA
 have HNz:=AA hnz;clear hnz;have hdc:d<=c2:=by
  rcases xZ.2 with⟨hv,h0⟩|⟨g,cap,cur,hv,_,_,h1,h2,_⟩
  ·omega
  ·injection hv with _ _ hc;omega
 have hFn:=Rd.of_own xZ;have j1:(0:Int)<=(d:Int):=by omega
 have j2:(d:Int)<=(c2:Int):=by omega
 have HW4:Hid (w4.ownsRow W.drew.heap.size 24 8 (.slice A2 d c2) d (p.flatMap nmc)):=xZ;clear hR hR2 hR3 yE xI hg4 hs4 hbW;try go_frame
 go_upto_region 9 with fail
 have HLT:Hid (w.heap.size<w4.heap.size):=hR4.lt;clear hR4;refine rgD (fun w'=>AJ w' w.heap.size 0 8=some up.cells) (x4) fun _=>?_
 iterate 7 (refine tkA ?_;go_frame)
 refine rd1 7 fun K hK=>?_
 go_simp;refine hK.out _ _ (BH x4 ((AC _ _).drew.alloc (by simp) _) HLT.out) (fun _=>?_);clear hK K;try go_frame
 refine rd1 8 fun K hK=>?_
 rw[if_pos (by rfl)];refine Dg _ (some 47) rfl (.tmp 44) (.tmp 46) _ (by rfl) 24 i0 (Nm.val ⟨0,0,0,0,0,0,0,0⟩) 8 8 underlying75 hi hz0 hz1 hz2 rfl (by decide) A2 d d (p.flatMap nmc) (by rfl) ?an ?al ?ah ⟨w4.heap.size,0,none⟩ 1 1 (nmc up) (by rfl) rfl ?ac ?a1 ?af ?ab ?a2 ?_
 case an=>exact HNz.out
 case al=>rw[AY nmc 8 p (Cb p),HP.out]
 case ah=>
  intro q hq j u hu;rcases hFn with h|⟨b5,o5,e5,_,hc5⟩
  ·rw[h]at hu;simp at hu
  ·rw[hq]at e5;injection e5 with e5;subst e5
   rw[Addr.add_mid];have:=hc5 j u hu;have hFo:=block_lt_of_cell this;have e6:=Below.heap_alloc w4 (.cells up.cells 24) b5 hFo;show(w4.alloc (.cells up.cells 24)).cell? _=_;rw[World.cell?_of_block (a:=⟨b5,o5+j,none⟩) e6];exact this
 case ac=>
  intro j u hu;rw[Addr.add_mid,Nat.zero_add,<-hu];simp
 case a1=>exact fun u hu=>Fa (l:=[up]) (by simpa using hu)
 case af=>omega
 case ab=>unfold maxLen;omega
 case a2=>omega
 intro v5 w5 xW hg5;have HB5:Hid (ZN w4 w5):=((AC _ _).drew.alloc (by simp) _).grown hg5 (by simp) (by rintro j ⟨⟩);refine hK.out _ _ (BH x4 HB5.out HLT.out) (fun _=>?_);clear hK K;try go_frame
 refine tkD 4 9 ?_;go_frame;refine dnD ?_;have xP:=xE.trans (HB5.out.mono xE.size);obtain⟨A5,c5,rfl⟩:=Av xW;go_wp2;go_ret;have e5:(p++[up]).flatMap nmc=p.flatMap nmc++nmc up:=by simp
 exact⟨A5,c5,rfl,BE (by rw[e5];exact xW) (by have:=xE.size;simp;omega),xP⟩
theorem Sf(d i n k c b o:Nat)(p:List Nm)(up:Nm)(w:World)(hp:p.length=d)(h0:d=0)(hk:k=2^d)(hn:n=2^(d+1))(hd:d<=40)(hik:i<k)(hc:n<=c)(h1:∀W,ZN w W->Calls prog 255 #[.slice (some ⟨b,o,none⟩) k k,.int .i64 (i:Int)] W (fun e w'=>e= .returned (.slice none 0 0)/\w'=W))(h2:∀W,ZN w W->Calls prog 91 #[.slice (some ⟨b,o+k*8,none⟩) k (c-k)] W (BM W up)):Calls prog 255 #[.slice (some ⟨b,o,none⟩) n c,.int .i64 (i:Int)] w (Ca w 24 8 (d+1) ((p++[up]).flatMap nmc)):=by
 obtain⟨i0,hi,hz0,hz1,hz2⟩:=info_parts DB;have H0:=AA h0;clear h0;have HP:=AA hp;clear hp;have H1:=AA h1;clear h1;have H2:=AA h2;clear h2;have hk1:1<=k:=by rw[hk];exact Nat.one_le_two_pow
 have hkb:k<=1099511627776:=by rw[hk];exact Nat.pow_le_pow_right (j:=40) (by omega) hd
 have h2k:n=2*k:=by rw[hn,hk,Nat.pow_succ];omega
 have xO:∀W,Calls prog 137 #[.int .i64 (n:Int)] W fun en w'=>en= .returned (.int .i64 (k:Int))/\w'=W:=fun W=>by
  rw[hk];exact DT d n W hn hd
 have HC:=AA xO;clear xO;have zc:((n:Int)==1)=false:=by rw[beq_eq_false_iff_ne];omega
 clear hk hn;subst h2k;have i1:(0:Int)<=(k:Int):=by omega
 have i2:(k:Int)<=(c:Int):=by omega
 have i3:(k:Int)<=((2*k:Nat):Int):=by omega
 have i4:¬c=k:=by omega
 have i5:2*k-k=k:=by omega
 have i6:((2*k:Nat):Int)<=(c:Int):=by omega
 have i7:=ZK (show i<k by omega)
 obtain⟨n,hn⟩:=ZH (2*k);rw[<-hn]at zc HC i3 i5 i6 ⊢;clear hn;go_enter func255,ntmps255;go_upto_region 7 with((go_at_call 137;refine(HC.out _).mono ?_;rintro en w' ⟨rfl,rfl⟩))
 have hR:Blk (w.alloc (Obj.cells At 24)) w.heap.size 24 At:=Blk.new w _ _;have hbW:ZN w (w.alloc (Obj.cells At 24)):=(AC _ _).alloc (AB _) _;generalize (w.alloc (Obj.cells At 24))=W at*;refine rgD (fun _=>True) (trivial) fun _=>?_
 iterate 5 (refine tkA ?_;go_frame)
 refine tkD 23 6 ?_;go_frame;refine tkD 24 7 ?_;go_frame;refine tkD 25 8 ?_;go_frame;refine rd1 5 fun K hK=>?_
 go_simp;refine(H1.out _ hbW.drew).mono ?_;rintro en w2 ⟨rfl,rfl⟩;have yE:=hbW.drew;have hR2:=hR.drew;go_wp2_with fail
 refine hK.out _ _ (trivial) (fun _=>?_);clear hK K;try go_frame
 refine rd1 9 fun K hK=>?_
 go_simp;refine(H2.out _ yE).mono ?_;rintro en w3 ⟨rfl,hb3⟩;have xI:=yE.trans (hb3.mono yE.size);have hR3:=hR2.below hb3 hR2.lt;go_wp2_with fail
 refine hK.out _ _ (trivial) (fun _=>?_);clear hK K;try go_frame
 refine tkD 5 10 ?_;go_frame;refine rd1 11 fun K hK=>?_
 rw[if_pos (by rfl)];refine BN 24 (.tmp 6) (.tmp 26) (by rfl) w.heap.size up.cells (by rfl) (by rfl) 24 At hR3 rfl Ag ?st1 (by rfl) ?_
 case st1=>exact fun u hu=>F6 up hu
 intro w4 hR4 hg4 hs4;refine hK.out _ _ (trivial) (fun _=>?_);clear hK K;try go_frame
 refine dnD ?_;have xE:ZN w w4:=xI.grown hg4 xI.size (by rintro j ⟨⟩;omega);have x4:AJ w4 w.heap.size 0 8=some up.cells:=hR4.row 8 rfl;clear hR hR2 hR3 yE xI hg4 hs4 hbW;try go_frame
 go_upto_region 9 with fail
 have HLT:Hid (w.heap.size<w4.heap.size):=hR4.lt;clear hR4;refine rgD (fun w'=>AJ w' w.heap.size 0 8=some up.cells) (x4) fun _=>?_
 iterate 7 (refine tkA ?_;go_frame)
 refine rd1 7 fun K hK=>?_
 go_simp;refine hK.out _ _ (BH x4 ((AC _ _).drew.alloc (by simp) _) HLT.out) (fun _=>?_);clear hK K;try go_frame
 refine rd1 8 fun K hK=>?_
 rw[if_pos (by rfl)];refine Dg _ (some 47) rfl (.tmp 44) (.tmp 46) _ (by rfl) 24 i0 (Nm.val ⟨0,0,0,0,0,0,0,0⟩) 8 8 underlying75 hi hz0 hz1 hz2 rfl (by decide) none 0 0 [] (by rfl) ?an ?al ?ah ⟨w4.heap.size,0,none⟩ 1 1 (nmc up) (by rfl) rfl ?ac ?a1 ?af ?ab ?a2 ?_
 case an=>exact fun _=>⟨rfl,rfl⟩
 case al=>rfl
 case ah=>intro q hq;cases hq
 case ac=>
  intro j u hu;rw[Addr.add_mid,Nat.zero_add,<-hu];simp
 case a1=>exact fun u hu=>Fa (l:=[up]) (by simpa using hu)
 case af=>omega
 case ab=>unfold maxLen;omega
 case a2=>omega
 intro v5 w5 xW hg5;have HB5:Hid (ZN w4 w5):=((AC _ _).drew.alloc (by simp) _).grown hg5 (by simp) (by rintro j ⟨⟩);refine hK.out _ _ (BH x4 HB5.out HLT.out) (fun _=>?_);clear hK K;try go_frame
 refine tkD 4 9 ?_;go_frame;refine dnD ?_;have xP:=xE.trans (HB5.out.mono xE.size);obtain⟨A5,c5,rfl⟩:=Av xW;go_wp2;go_ret;have h0:=H0.out;subst h0;have e5:(p++[up]).flatMap nmc=[]++nmc up:=by rw[AV HP.out];simp
 exact⟨A5,c5,rfl,BE (by rw[e5];exact xW) (by have:=xE.size;simp;omega),xP⟩
theorem Uz(d i n k c b o:Nat)(p:List Nm)(up:Nm)(w:World)(hp:p.length=d)(hk:k=2^d)(hn:n=2^(d+1))(hd:d<=40)(hik:k<=i/\i<n)(hc:n<=c)(h1:∀W,ZN w W->Calls prog 255 #[.slice (some ⟨b,o+k*8,none⟩) k (c-k),.int .i64 ((i:Int)-(k:Int))] W (Ca W 24 8 d (p.flatMap nmc)))(h2:∀W,ZN w W->Calls prog 91 #[.slice (some ⟨b,o,none⟩) k k] W (BM W up)):Calls prog 255 #[.slice (some ⟨b,o,none⟩) n c,.int .i64 (i:Int)] w (Ca w 24 8 (d+1) ((p++[up]).flatMap nmc)):=by
 obtain⟨i0,hi,hz0,hz1,hz2⟩:=info_parts DB;have HP:=AA hp;clear hp;have H1:=AA h1;clear h1;have H2:=AA h2;clear h2;have hk1:1<=k:=by rw[hk];exact Nat.one_le_two_pow
 have hkb:k<=1099511627776:=by rw[hk];exact Nat.pow_le_pow_right (j:=40) (by omega) hd
 have h2k:n=2*k:=by rw[hn,hk,Nat.pow_succ];omega
 have xO:∀W,Calls prog 137 #[.int .i64 (n:Int)] W fun en w'=>en= .returned (.int .i64 (k:Int))/\w'=W:=fun W=>by
  rw[hk];exact DT d n W hn hd
 have HC:=AA xO;clear xO;have zc:((n:Int)==1)=false:=by rw[beq_eq_false_iff_ne];omega
 clear hk hn;subst h2k;have i1:(0:Int)<=(k:Int):=by omega
 have i2:(k:Int)<=(c:Int):=by omega
 have i3:(k:Int)<=((2*k:Nat):Int):=by omega
 have i4:¬c=k:=by omega
 have i5:2*k-k=k:=by omega
 have i6:((2*k:Nat):Int)<=(c:Int):=by omega
 have i7:=ZL (show k<=i by omega)
 have i8:IntKind.i64.wrap ((i:Int)-(k:Int))=(i:Int)-(k:Int):=by rw[IntKind.wrap_i64];omega
 obtain⟨n,hn⟩:=ZH (2*k);rw[<-hn]at zc HC i3 i5 i6 ⊢;clear hn;go_enter func255,ntmps255;go_upto_region 8 with((go_at_call 137;refine(HC.out _).mono ?_;rintro en w' ⟨rfl,rfl⟩))
 have hR:Blk (w.alloc (Obj.cells At 24)) w.heap.size 24 At:=Blk.new w _ _;have hbW:ZN w (w.alloc (Obj.cells At 24)):=(AC _ _).alloc (AB _) _;generalize (w.alloc (Obj.cells At 24))=W at*;refine rgD (fun _=>True) (trivial) fun _=>?_
 iterate 6 (refine tkA ?_;go_frame)
 refine tkD 34 7 ?_;go_frame;refine tkD 35 8 ?_;go_frame;refine tkD 36 9 ?_;go_frame;refine tkD 37 10 ?_;go_frame;refine rd1 6 fun K hK=>?_
 go_simp;refine(H1.out _ hbW.drew).mono ?_;rintro en w2 ⟨A2,c2,rfl,xG,hb2⟩;have yE:=hbW.drew.trans (hb2.mono hbW.size);have hR2:=hR.drew.below hb2 hR.drew.lt;go_wp2_with fail
 refine hK.out _ _ (trivial) (fun _=>?_);clear hK K;try go_frame
 refine rd1 11 fun K hK=>?_
 go_simp;refine(H2.out _ yE).mono ?_;rintro en w3 ⟨rfl,hb3⟩;have xI:=yE.trans (hb3.mono yE.size);have hR3:=hR2.below hb3 hR2.lt;have xD:=Ay xG hb3 (AB _);go_wp2_with fail
 refine hK.out _ _ (trivial) (fun _=>?_);clear hK K;try go_frame
 refine tkD 5 12 ?_;go_frame;refine rd1 13 fun K hK=>?_
 rw[if_pos (by rfl)];refine BN 24 (.tmp 6) (.tmp 38) (by rfl) w.heap.size up.cells (by rfl) (by rfl) 24 At hR3 rfl Ag ?st1 (by rfl) ?_
 case st1=>exact fun u hu=>F6 up hu
 intro w4 hR4 hg4 hs4;refine hK.out _ _ (trivial) (fun _=>?_);clear hK K;try go_frame
 refine dnD ?_;have xE:ZN w w4:=xI.grown hg4 xI.size (by rintro j ⟨⟩;omega);have x4:AJ w4 w.heap.size 0 8=some up.cells:=hR4.row 8 rfl;have hFm:xD.1=xD.1:=rfl;clear hFm;have xZ:=xD.kept hg4 (.inr fun e=>by have:=(xD.lt _ e).1;have:=hbW.size;have:=hR.lt;simp at*;omega);have hnz:A2=none->d=0/\d=0:=fun e=>by
  rcases xZ.2 with⟨hv,h0⟩|⟨g,cap,cur,hv,_⟩
  ·exact⟨h0,h0⟩
  ·injection hv with hA;rw[e]at hA;cases hA
 have HNz:=AA hnz;clear hnz;have hdc:d<=c2:=by
  rcases xZ.2 with⟨hv,h0⟩|⟨g,cap,cur,hv,_,_,h1,h2,_⟩
  ·omega
  ·injection hv with _ _ hc;omega
 have hFn:=Rd.of_own xZ;have j1:(0:Int)<=(d:Int):=by omega
 have j2:(d:Int)<=(c2:Int):=by omega
 have HW4:Hid (w4.ownsRow W.drew.heap.size 24 8 (.slice A2 d c2) d (p.flatMap nmc)):=xZ;clear hR hR2 hR3 yE xI hg4 hs4 hbW;try go_frame
 go_upto_region 9 with fail
 have HLT:Hid (w.heap.size<w4.heap.size):=hR4.lt;clear hR4;refine rgD (fun w'=>AJ w' w.heap.size 0 8=some up.cells) (x4) fun _=>?_
 iterate 7 (refine tkA ?_;go_frame)
 refine rd1 7 fun K hK=>?_
 go_simp;refine hK.out _ _ (BH x4 ((AC _ _).drew.alloc (by simp) _) HLT.out) (fun _=>?_);clear hK K;try go_frame
 refine rd1 8 fun K hK=>?_
 rw[if_pos (by rfl)];refine Dg _ (some 47) rfl (.tmp 44) (.tmp 46) _ (by rfl) 24 i0 (Nm.val ⟨0,0,0,0,0,0,0,0⟩) 8 8 underlying75 hi hz0 hz1 hz2 rfl (by decide) A2 d d (p.flatMap nmc) (by rfl) ?an ?al ?ah ⟨w4.heap.size,0,none⟩ 1 1 (nmc up) (by rfl) rfl ?ac ?a1 ?af ?ab ?a2 ?_
 case an=>exact HNz.out
 case al=>rw[AY nmc 8 p (Cb p),HP.out]
 case ah=>
  intro q hq j u hu;rcases hFn with h|⟨b5,o5,e5,_,hc5⟩
  ·rw[h]at hu;simp at hu
  ·rw[hq]at e5;injection e5 with e5;subst e5
   rw[Addr.add_mid];have:=hc5 j u hu;have hFo:=block_lt_of_cell this;have e6:=Below.heap_alloc w4 (.cells up.cells 24) b5 hFo;show(w4.alloc (.cells up.cells 24)).cell? _=_;rw[World.cell?_of_block (a:=⟨b5,o5+j,none⟩) e6];exact this
 case ac=>
  intro j u hu;rw[Addr.add_mid,Nat.zero_add,<-hu];simp
 case a1=>exact fun u hu=>Fa (l:=[up]) (by simpa using hu)
 case af=>omega
 case ab=>unfold maxLen;omega
 case a2=>omega
 intro v5 w5 xW hg5;have HB5:Hid (ZN w4 w5):=((AC _ _).drew.alloc (by simp) _).grown hg5 (by simp) (by rintro j ⟨⟩);refine hK.out _ _ (BH x4 HB5.out HLT.out) (fun _=>?_);clear hK K;try go_frame
 refine tkD 4 9 ?_;go_frame;refine dnD ?_;have xP:=xE.trans (HB5.out.mono xE.size);obtain⟨A5,c5,rfl⟩:=Av xW;go_wp2;go_ret;have e5:(p++[up]).flatMap nmc=p.flatMap nmc++nmc up:=by simp
 exact⟨A5,c5,rfl,BE (by rw[e5];exact xW) (by have:=xE.size;simp;omega),xP⟩
theorem Sh(d i n k c b o:Nat)(p:List Nm)(up:Nm)(w:World)(hp:p.length=d)(h0:d=0)(hk:k=2^d)(hn:n=2^(d+1))(hd:d<=40)(hik:k<=i/\i<n)(hc:n<=c)(h1:∀W,ZN w W->Calls prog 255 #[.slice (some ⟨b,o+k*8,none⟩) k (c-k),.int .i64 ((i:Int)-(k:Int))] W (fun e w'=>e= .returned (.slice none 0 0)/\w'=W))(h2:∀W,ZN w W->Calls prog 91 #[.slice (some ⟨b,o,none⟩) k k] W (BM W up)):Calls prog 255 #[.slice (some ⟨b,o,none⟩) n c,.int .i64 (i:Int)] w (Ca w 24 8 (d+1) ((p++[up]).flatMap nmc)):=by
 obtain⟨i0,hi,hz0,hz1,hz2⟩:=info_parts DB;have H0:=AA h0;clear h0;have HP:=AA hp;clear hp;have H1:=AA h1;clear h1;have H2:=AA h2;clear h2;have hk1:1<=k:=by rw[hk];exact Nat.one_le_two_pow
 have hkb:k<=1099511627776:=by rw[hk];exact Nat.pow_le_pow_right (j:=40) (by omega) hd
 have h2k:n=2*k:=by rw[hn,hk,Nat.pow_succ];omega
 have xO:∀W,Calls prog 137 #[.int .i64 (n:Int)] W fun en w'=>en= .returned (.int .i64 (k:Int))/\w'=W:=fun W=>by
  rw[hk];exact DT d n W hn hd
 have HC:=AA xO;clear xO;have zc:((n:Int)==1)=false:=by rw[beq_eq_false_iff_ne];omega
 clear hk hn;subst h2k;have i1:(0:Int)<=(k:Int):=by omega
 have i2:(k:Int)<=(c:Int):=by omega
 have i3:(k:Int)<=((2*k:Nat):Int):=by omega
 have i4:¬c=k:=by omega
 have i5:2*k-k=k:=by omega
 have i6:((2*k:Nat):Int)<=(c:Int):=by omega
 have i7:=ZL (show k<=i by omega)
 have i8:IntKind.i64.wrap ((i:Int)-(k:Int))=(i:Int)-(k:Int):=by rw[IntKind.wrap_i64];omega
 obtain⟨n,hn⟩:=ZH (2*k);rw[<-hn]at zc HC i3 i5 i6 ⊢;clear hn;go_enter func255,ntmps255;go_upto_region 8 with((go_at_call 137;refine(HC.out _).mono ?_;rintro en w' ⟨rfl,rfl⟩))
 have hR:Blk (w.alloc (Obj.cells At 24)) w.heap.size 24 At:=Blk.new w _ _;have hbW:ZN w (w.alloc (Obj.cells At 24)):=(AC _ _).alloc (AB _) _;generalize (w.alloc (Obj.cells At 24))=W at*;refine rgD (fun _=>True) (trivial) fun _=>?_
 iterate 6 (refine tkA ?_;go_frame)
 refine tkD 34 7 ?_;go_frame;refine tkD 35 8 ?_;go_frame;refine tkD 36 9 ?_;go_frame;refine tkD 37 10 ?_;go_frame;refine rd1 6 fun K hK=>?_
 go_simp;refine(H1.out _ hbW.drew).mono ?_;rintro en w2 ⟨rfl,rfl⟩;have yE:=hbW.drew;have hR2:=hR.drew;go_wp2_with fail
 refine hK.out _ _ (trivial) (fun _=>?_);clear hK K;try go_frame
 refine rd1 11 fun K hK=>?_
 go_simp;refine(H2.out _ yE).mono ?_;rintro en w3 ⟨rfl,hb3⟩;have xI:=yE.trans (hb3.mono yE.size);have hR3:=hR2.below hb3 hR2.lt;go_wp2_with fail
 refine hK.out _ _ (trivial) (fun _=>?_);clear hK K;try go_frame
 refine tkD 5 12 ?_;go_frame;refine rd1 13 fun K hK=>?_
 rw[if_pos (by rfl)];refine BN 24 (.tmp 6) (.tmp 38) (by rfl) w.heap.size up.cells (by rfl) (by rfl) 24 At hR3 rfl Ag ?st1 (by rfl) ?_
 case st1=>exact fun u hu=>F6 up hu
 intro w4 hR4 hg4 hs4;refine hK.out _ _ (trivial) (fun _=>?_);clear hK K;try go_frame
 refine dnD ?_;have xE:ZN w w4:=xI.grown hg4 xI.size (by rintro j ⟨⟩;omega);have x4:AJ w4 w.heap.size 0 8=some up.cells:=hR4.row 8 rfl;clear hR hR2 hR3 yE xI hg4 hs4 hbW;try go_frame
 go_upto_region 9 with fail
 have HLT:Hid (w.heap.size<w4.heap.size):=hR4.lt;clear hR4;refine rgD (fun w'=>AJ w' w.heap.size 0 8=some up.cells) (x4) fun _=>?_
 iterate 7 (refine tkA ?_;go_frame)
 refine rd1 7 fun K hK=>?_
 go_simp;refine hK.out _ _ (BH x4 ((AC _ _).drew.alloc (by simp) _) HLT.out) (fun _=>?_);clear hK K;try go_frame
 refine rd1 8 fun K hK=>?_
 rw[if_pos (by rfl)];refine Dg _ (some 47) rfl (.tmp 44) (.tmp 46) _ (by rfl) 24 i0 (Nm.val ⟨0,0,0,0,0,0,0,0⟩) 8 8 underlying75 hi hz0 hz1 hz2 rfl (by decide) none 0 0 [] (by rfl) ?an ?al ?ah ⟨w4.heap.size,0,none⟩ 1 1 (nmc up) (by rfl) rfl ?ac ?a1 ?af ?ab ?a2 ?_
 case an=>exact fun _=>⟨rfl,rfl⟩
 case al=>rfl
 case ah=>intro q hq;cases hq
 case ac=>
  intro j u hu;rw[Addr.add_mid,Nat.zero_add,<-hu];simp
 case a1=>exact fun u hu=>Fa (l:=[up]) (by simpa using hu)
 case af=>omega
 case ab=>unfold maxLen;omega
 case a2=>omega
 intro v5 w5 xW hg5;have HB5:Hid (ZN w4 w5):=((AC _ _).drew.alloc (by simp) _).grown hg5 (by simp) (by rintro j ⟨⟩);refine hK.out _ _ (BH x4 HB5.out HLT.out) (fun _=>?_);clear hK K;try go_frame
 refine tkD 4 9 ?_;go_frame;refine dnD ?_;have xP:=xE.trans (HB5.out.mono xE.size);obtain⟨A5,c5,rfl⟩:=Av xW;go_wp2;go_ret;have h0:=H0.out;subst h0;have e5:(p++[up]).flatMap nmc=[]++nmc up:=by rw[AV HP.out];simp
 exact⟨A5,c5,rfl,BE (by rw[e5];exact xW) (by have:=xE.size;simp;omega),xP⟩
theorem Ja:∀(d i:Nat) (l:List Nm) (b o n c:Nat) (w:World),l.length=n->n=2^d->d<=40->n<=c->c<=maxLen->i<n->Rd w w.heap.size (some ⟨b,o,none⟩) (l.flatMap nmc)->
  Calls prog 255 #[.slice (some ⟨b,o,none⟩) n c,.int .i64 (i:Int)] w (Ca w 24 8 d ((EI d i l).flatMap nmc))
 |0,i,l,b,o,n,c,w,hl,hn,_,_,_,_,_=>by
  obtain rfl:n=1:=hn;refine(IP _ c i w).mono ?_;rintro e w' ⟨rfl,rfl⟩;exact⟨none,0,rfl,⟨rfl,.inl ⟨rfl,rfl⟩⟩,AC _ _⟩
 |d+1,i,l,b,o,n,c,w,hl,hn,hd,hc,hm,hi,hr=>by
  have h2:n=2*2^d:=by rw[hn,Nat.pow_succ];omega
  have hp:1<=2^d:=Nat.one_le_two_pow;have hrt:∀W,ZN w W->Rd W W.heap.size (some ⟨b,o,none⟩) ((l.take (2^d)).flatMap nmc):=fun W hW=>Uw ((hr.below hW).more hW.size) _
  have hrd:∀W,ZN w W->Rd W W.heap.size (some ⟨b,o+2^d*8,none⟩) ((l.drop (2^d)).flatMap nmc):=fun W hW=>Ux ((hr.below hW).more hW.size) _
  have ht:(l.take (2^d)).length=2^d:=by rw[AZ];omega
  have hdl:(l.drop (2^d)).length=2^d:=by rw[List.length_drop];omega
  have R1:∀W,ZN w W->Calls prog 91 #[.slice (some ⟨b,o+2^d*8,none⟩) (2^d) (c-2^d)] W (BM W (DY d (l.drop (2^d)))):=fun W hW=>EX d _ _ _ _ W hdl rfl (by omega) (by omega) (by omega) (hrd W hW)
  have R2:∀W,ZN w W->Calls prog 91 #[.slice (some ⟨b,o,none⟩) (2^d) (2^d)] W (BM W (DY d (l.take (2^d)))):=fun W hW=>EX d _ _ _ _ W ht rfl (by omega) (by omega) (by omega) (hrt W hW)
  rw[EI];split
  ·rename_i h
   cases d with
   |zero=>
    exact Sf 0 i n 1 c b o _ _ w (CS 0 i _) rfl rfl hn (by omega) (by omega) hc (fun W hW=>IP _ _ i W) R1
   |succ d=>
    exact Uy (d+1) i n (2^(d+1)) c b o _ _ w (CS _ i _) rfl hn (by omega) (by omega) hc (fun W hW=>Ja (d+1) i _ b o _ _ W ht rfl (by omega) (by omega) (by omega) (by omega) (hrt W hW)) R1
  ·rename_i h
   have hs:((i-2^d:Nat):Int)=(i:Int)-((2^d:Nat):Int):=by omega
   cases d with
   |zero=>
    refine Sh 0 i n 1 c b o _ _ w (CS 0 _ _) rfl rfl hn (by omega) (by omega) hc (fun W hW=>?_) R2;have h1:=IP (some ⟨b,o+1*8,none⟩) (c-1) (i-2^0) W;rw[hs]at h1;exact h1
   |succ d=>
    refine Uz (d+1) i n (2^(d+1)) c b o _ _ w (CS _ _ _) rfl hn (by omega) (by omega) hc (fun W hW=>?_) R2;have h1:=Ja (d+1) (i-2^(d+1)) _ b (o+2^(d+1)*8) _ (c-2^(d+1)) W hdl rfl (by omega) (by omega) (by omega) (by omega) (hrd W hW);rw[hs]at h1;exact h1
def Ow(w:World)(d:Nat)(p:List Nm)(e:Ending)(w':World):Prop:=
 ∃A c,e= .returned (.tuple #[.slice A d c,.bool true])/\w'.ownsRow w.heap.size 24 8 (.slice A d c) d (p.flatMap nmc)/\ZN w w'
theorem U0(i:Nat)(l:List Nm)(b o c:Nat)(w:World)(hl:l.length=32)(hc:32<=c)(hm:c<=maxLen)(hi:i<32)(hr:Rd w w.heap.size (some ⟨b,o,none⟩) (l.flatMap nmc)):Calls prog 219 #[.slice (some ⟨b,o,none⟩) 32 c,.int .i64 (i:Int)] w (Ow w 5 (EI 5 i l)):=by
 have HD:=AA (fun W=>Qm i W hi);have HC:=AA (Ja 5 i l b o 32 c w hl rfl (by omega) hc hm hi hr);obtain⟨p,hp⟩:=ZH (EI 5 i l);rw[<-hp]at HC ⊢;clear hp hr;go_enter func219,ntmps219;go_wp2_with (first
  |(go_at_call 254;refine(HD.out _).mono ?_;rintro en w' ⟨rfl,rfl⟩)
  |(go_at_call 255;refine HC.out.mono ?_;rintro en w2 ⟨A2,c2,rfl,xG,hb2⟩))
 go_ret2;exact⟨A2,c2,rfl,xG,hb2⟩
abbrev Eo(g:Nat):Value:=.slice (some ⟨g,0,none⟩) 32 32
def Gv(s:Nm)(w:World)(tl:List ((Int×Int)×Value)):Prop:=
 ∀k v,BQ k tl=some v->∃level number g:Nat,k=((level:Int),(number:Int))/\v=Eo g/\BK w g 32 (CZ s level number)
def Bg(s:Nm)(h m:Nat)(w:World):Prop:=Blk w h 152 (CL s m)/\h≠m/\∃tl,By DZ w m tl/\Gv s w tl
theorem Gv.below{s:Nm}{w w':World}{tl:List ((Int×Int)×Value)}(h:Gv s w tl)(hb:ZN w w'):Gv s w' tl:=fun k v hk=>by
 obtain⟨a,b,g,h1,h2,h3⟩:=h k v hk;exact⟨a,b,g,h1,h2,h3.below hb h3.lt⟩
theorem Bg.below{s:Nm}{h m:Nat}{w w':World}(hk:Bg s h m w)(hb:ZN w w'):Bg s h m w':=by
 obtain⟨h1,h2,tl,h3,h4⟩:=hk;exact⟨h1.below hb h1.lt,h2,tl,h3.below hb h3.lt,h4.below hb⟩
theorem Bg.drew{s:Nm}{h m:Nat}{w:World}(hk:Bg s h m w):Bg s h m w.drew:=hk
theorem CW{w:World}{g:Nat}{t t':TypeId}{cs cs':Array Value}(h:Blk w g t cs)(h':Blk w g t' cs'):t=t':=by
 unfold Blk at h h';rw[h]at h';injection h' with h'
 injection h' with _ ht
theorem Bg.far{s:Nm}{h m k t:Nat}{cs:Array Value}{w w':World}(hk:Bg s h m w)(hB:Blk w k t cs)(ht:t≠24)(ht2:t≠152)(hg:w.grownBy w' (some k)):Bg s h m w':=by
 obtain⟨h1,h2,tl,h3,h4⟩:=hk;have hm:m≠k:=by
  rintro rfl;obtain⟨es,c,h5,_⟩:=h3;unfold Blk at hB;rw[hB]at h5;cases h5
 refine⟨h1.kept hg (fun e=>?_),h2,tl,h3.kept hg (by simpa using hm),fun a b hab=>?_⟩
 ·injection e with e
  subst e;exact ht2 (CW hB h1)
 ·obtain⟨l,n,g,e1,e2,e3⟩:=h4 a b hab;refine⟨l,n,g,e1,e2,e3.kept hg (fun e=>?_)⟩;injection e with e
  subst e;obtain⟨cur,hC,_⟩:=e3;exact ht (CW hB hC)
theorem Bg.own{s:Nm}{h m base n:Nat}{v:Value}{xs:List Value}{w w':World}(hk:Bg s h m w)(ho:w.ownsRow base 5 1 v n xs)(hg:w.grownBy w' v.ownBlock):Bg s h m w':=by
 rcases ho.2 with⟨rfl,_⟩|⟨g,cap,cur,rfl,_,hh,_⟩
 ·obtain⟨h1,h2,tl,h3,h4⟩:=hk;have hg':w.grownBy w' none:=hg;refine⟨h1.kept hg' (by simp),h2,tl,h3.kept hg' (by simp),fun a b hab=>?_⟩;obtain⟨l,n,g,e1,e2,e3⟩:=h4 a b hab;exact⟨l,n,g,e1,e2,e3.kept hg' (by simp)⟩
 ·exact hk.far (k:=g) (t:=5) (cs:=cur) hh (by decide) (by decide) hg
theorem Ox{P:Program}{kt:TypeId}{κ:Type}[DecidableEq κ]{enc:κ->Value}{ops:Array Oper}{rest:List Oper}{o:Oper}{a:Act}{w:World}{Q:Exit->Act->World->Prop}(hg:o.guard=none)(t e:TypeId)(mo ko vo:Operand)(ho:o.op= .mapUpdate t mo ko vo)(m:Nat)(k:κ)(v:Value)(l:List (κ×Value))(hm:a.eval mo= .map (some m))(hk:a.eval ko=enc k)(hv:a.eval vo=v)(h:By enc w m l)(K':Es P kt enc)(ht:P.underlying t=some (.map kt e))(hK:∀w',By enc w' m (CP k v l)->w.grownBy w' (some m)->w'.heap.size=w.heap.size->wpList P ops Q rest (a.put o.dst undef) w'):wpList P ops Q (o::rest) a w:=by
 refine wpList_plain hg fun K hK2=>?_
 obtain⟨w',h1,h2,h3,h4⟩:=h.store K' ht k v (e:=e);unfold Oper.wp execOp;simp only[ho,hm,hk,hv,Sem.run_bind,h1,Result.andThen_ok,Sem.run_pure];exact hK2 _ _ (hK w' h2 h3 h4)
theorem Le(s r:Nm)(h m level number j:Nat)(w:World)(hB:Blk w h 152 (CL s m))(hl:level<=2)(hn:number<32)(hj:j<32)(hr:Jw s level number j=r):Calls prog 140 #[.pointer (some ⟨h,0,none⟩),.int .i64 (level:Int),.int .i64 (number:Int),.int .i64 (j:Int)] w (BM w r):=by
 obtain⟨i0,hi,hz0,hz1,hz2⟩:=info_parts Bf;have hr2:Dh (48::(s.bytes++[UInt8.ofNat level,UInt8.ofNat (number/256),UInt8.ofNat number,UInt8.ofNat j]))=r:=hr;have Hr:=AA hr2;clear hr hr2;have hb1:=K2 level (by omega);have hb4:=K2 j (by omega);have e2:BZ number 1=UInt8.ofNat (number/256):=by simp[BZ]
 have e3:BZ number 0=UInt8.ofNat number:=by simp[BZ]
 rw[<-e2,<-e3]at Hr;generalize UInt8.ofNat level=b1 at*;generalize UInt8.ofNat j=b4 at*;have HB1:=AA hb1;clear hb1;have HB4:=AA hb4;clear hb4;clear e2 e3;have hWk:Blk (w.alloc (Obj.cells At 24)) h 152 (CL s m):=hB.alloc _;have hR:Blk (w.alloc (Obj.cells At 24)) w.heap.size 24 At:=Blk.new w _ _;have hb:ZN w (w.alloc (Obj.cells At 24)):=(AC _ _).alloc (AB _) _;have hlt:=hB.lt;clear hB;go_enter func140,ntmps140;go_upto_region 1 with fail
 generalize (w.alloc (Obj.cells At 24))=wr at*;have hDf:=hWk.lt;go_upto_region 2 with(at_builtin;refine wpList_append_grows _ rfl (.tmp 13) (.tmp 16) _ rfl 5 i0 (.int .u8 0) 1 1 underlying60 hi hz0 hz1 hz2 rfl (by decide) (some ⟨h,0,none⟩) 8 8 (s.bytes.map B) rfl ?r0 rfl ?r1 ⟨wr.heap.size,0,none⟩ 1 1 [B b1] rfl rfl ?r2 ?r3 ?r4 ?r5 ?r6 ?_)
 case r0=>intro h;cases h
 case r1=>
  intro b hbe j u hu;injection hbe with hbe;subst hbe
  rw[Addr.add_mid,Nat.zero_add,(hWk.alloc _).cell];have hj8:j<8:=by
   have:=(AE.1 hu).1;simpa[Nm.bytes]using this
  rw[<-hu];rcases j with _|_|_|_|_|_|_|_|j <;> first|rfl|omega
 case r2=>
  intro j u hu;rw[Addr.add_mid,Nat.zero_add,(Blk.new wr _ _).cell,<-hu,HB1.out];simp
 case r3=>intro u hu;simp at hu;rcases hu with rfl;rfl
 case r4=>omega
 case r5=>unfold maxLen;omega
 case r6=>omega
 intro v2 w2 xG hg2;have hR2:=(hR.alloc _).kept hg2 (by simp);have hb2:=Dr (hb.alloc hb.size _) hg2;have e:s.bytes.map B++[B b1]=(s.bytes++[b1]).map B:=by simp
 rw[e]at xG;obtain⟨A2,c2,rfl⟩:=Av xG;have HC2:Hid (Calls prog 80 #[.slice A2 (8+1) c2,.int .u64 (number:Int),.int .i64 2] w2 (Ca w2 5 1 11 ((s.bytes++[b1]++[BZ number 1,BZ number 0]).map B))):=by
  have h:=KO A2 9 c2 number ((s.bytes++[b1]).map B) w2 (by simp[Nm.bytes]) (Rd.of_own xG) (fun u hu=>Ba hu) (by omega);rw[Ae (l₂:=[BZ number 1,BZ number 0])];exact h
 clear e xG hg2 hWk hR hb;try go_frame
 go_upto_region 3 with(go_at_call 80;refine HC2.out.mono ?_;rintro en w3 ⟨A3,c3,rfl,xD,hb3⟩;have hR3:=hR2.below hb3 hR2.lt;have xJ:=hb2.trans (hb3.mono hb2.size);have hsz:=hb2.size;clear HC2)
 clear hR2 hb2;try go_frame
 have HT:Hid (∀(A4:Option Addr) (c4:Nat) (w4:World),w4.ownsRow w.heap.size 5 1 (.slice A4 (11+1) c4) (11+1) ((s.bytes++[b1]++[BZ number 1,BZ number 0]).map B++[B b4])->Calls prog 50 #[.int .u8 48,.slice A4 (11+1) c4] w4 (BM w4 r)):=fun A4 c4 w4 ho=>by
  have e:(s.bytes++[b1]++[BZ number 1,BZ number 0]).map B++[B b4]=(s.bytes++[b1,BZ number 1,BZ number 0,b4]).map B:=by simp
  rw[e]at ho;exact CE 48 A4 c4 (s.bytes++[b1,BZ number 1,BZ number 0,b4]) r w4 (Rd.of_own ho) (by simp[Nm.bytes]) Hr.out
 go_wp2_with (first
  |(at_builtin;refine Ar rfl (.tmp 22) (.tmp 25) _ rfl w.heap.size 5 (.int .u8 0) 1 1 underlying60 Bf rfl (by decide) _ 11 _ rfl (BE (xD.alloc _) hsz) (w3.heap.size+1) _ 1 1 [B b4] rfl rfl (by have h:=Rd.one w3 (B b4) 5;rw[HB4.out]at h ⊢;exact h) (fun u hu=>IV hu rfl) (by omega) (by unfold maxLen;omega) (by have:=xJ.size;simp;omega) ?_;intro v4 w4 xZ hg4 hEA;have hR4:=(hR3.alloc _).kept hg4 (CJ (BE xD hsz) hR3 (by decide));have xE:=BJ (xJ.alloc xJ.size _) (BE (xD.alloc _) hsz) hg4;obtain⟨A4,c4,hv4⟩:=Av xZ;subst hv4)
  |(go_at_call 50;refine(HT.out A4 c4 w4 xZ).mono ?_;rintro en w5 ⟨rfl,hb5⟩;have hR5:=hR4.below hb5 hR4.lt;have xP:=xE.trans (hb5.mono xE.size))
  |(refine AI rfl 24 (.tmp 8) (.tmp 27) rfl w.heap.size _ rfl rfl 24 _ hR5 rfl Ag (fun u hu=>F6 r hu) ?_))
 intro w6 hR6 hg6 hs6;have xY:ZN w w6:=xP.grown hg6 xP.size (by rintro j ⟨⟩;omega);go_wp2;exact bodyPost_ret (results_cell_row (g:=w.heap.size) rfl _ _ _ _ _ _ rfl hR6 underlying24 rfl Ag) rfl ⟨rfl,xY⟩
end
section
open Go.RowKit Go.Shelf
attribute [local go_sem ↓] Go.wp_at_zero Go.wp_at_succ Aj Ao Ap Aq Dv
attribute [local go_sem] Ax BB BC BD Fd AK AR AN
abbrev Cz(M q s f:Int)(p:Nm)(A:Option Addr)(n c mo:Nat):Array Value:=#[.int .i64 M,I q,I s,I f,B p.b0,B p.b1,B p.b2,B p.b3,B p.b4,B p.b5,B p.b6,B p.b7,.slice A n c,.map (some mo)]
structure Fh (w:World)(b:Nat)(M q s f:Int)(p:Nm)(A:Option Addr)(c mo:Nat)(O:List Vt)(ow:Int->Int->Bool):Prop where
 blk:Blk w b 229 (Cz M q s f p A O.length c mo)
 rd:Rd w w.heap.size A (O.flatMap vtc)
 own:∃kl,Bp DZ w mo kl/\∀k r,∃z:Nat,(BQ (k,r) kl).getD (.int .i64 0)= .int .i64 (z:Int)/\decide (0<z)=ow k r
section
variable {w w':World}{b:Nat}{M q s f:Int}{p:Nm}{A:Option Addr}{c mo:Nat}{O:List Vt}{ow:Int->Int->Bool}
theorem Fh.below(h:Fh w b M q s f p A c mo O ow)(hb:ZN w w'):Fh w' b M q s f p A c mo O ow:=
 ⟨h.blk.below hb h.blk.lt,(h.rd.below hb).more hb.size,by obtain⟨kl,h1,h2⟩:=h.own;exact⟨kl,h1.below hb h1.is.lt,h2⟩⟩
theorem Fh.row_parent(h:Fh w b M q s f p A c mo O ow):AJ w b 4 8=some p.cells:=
 Blk.part h.blk 4 p.cells (fun j u hu=>by
  have hj:j<8:=(Aa.1 hu).1;rcases(by omega:j=0∨j=1∨j=2∨j=3∨j=4∨j=5∨j=6∨j=7)with rfl|rfl|rfl|rfl|rfl|rfl|rfl|rfl <;> exact hu)
theorem Dy(h:Fh w b M q s f p A c mo O ow)(k r:Int):Calls prog 204 #[.pointer (some ⟨b,0,none⟩),.int .i64 k,.int .i64 r] w fun e w'=>e= .returned (.bool (ow k r))/\w'=w:=by
 obtain⟨kl,h1,h2⟩:=h.own;obtain⟨z,hz,hd⟩:=h2 k r;have y0:w.cell? ⟨b,13,none⟩=some (.map (some mo)):=h.blk.cell 13;have hr:=h1.is.look RS underlying227 (.int .i64 0) (show(zeroValue 3).run prog w= .ok (.int .i64 0) w by kernel_rfl) (k,r) false;simp only[Bool.false_eq_true,if_false]at hr;rw[hz]at hr;obtain⟨d,hd'⟩:=ZH (ow k r);rw[<-hd']at hd ⊢;clear h h1 h2 hz hd';go_enter func204,ntmps204;go_wp2;go_ret;exact⟨rfl,rfl⟩
theorem Oy{o:Oper}{a:Act}(v:Vt)(x0 x1 x2 x3 x4 x5 x6 x7:Operand)(ho:o.op= .build 46 #[(0,x0),(1,x1),(2,x2),(3,x3),(4,x4),(5,x5),(6,x6),(7,x7)])(h0:a.eval x0=I v.kind)(h1:a.eval x1=I v.slot)(h2:a.eval x2=I v.round)(h3:a.eval x3=I v.choice)(h4:a.eval x4=I v.signer)(h5:a.eval x5=I v.support)(h6:a.eval x6= .agg v.parent.cells)(h7:a.eval x7= .agg v.value.cells)(w:World):(execOp a.eval o).run prog w= .ok (.value v.val) w:=by
 unfold execOp;rw[ho];simp only[List.map_toArray,List.map_cons,List.map_nil,h0,h1,h2,h3,h4,h5,h6,h7];go_simp
theorem Au:(prog.info? 46).map (·.size)=some 22:=by kernel_rfl
theorem Gw(h:Fh w b M q s f p A c mo O ow)(k r:Int)(x:Vl)(sup:Int):Calls prog 206 #[.pointer (some ⟨b,0,none⟩),.int .i64 k,.int .i64 r,x.val,.int .i64 sup] w fun e w'=>e= .returned (.tuple #[(Vt.mk k s r x.choice f sup p x.name).val,.bool true])/\ZN w w':=by
 obtain⟨w1,hw1⟩:=ZH (w.alloc (.cells x.cells 258));obtain⟨w2,hw2⟩:=ZH (w1.alloc (.cells Ad 46));have hb1:ZN w w1:=by rw[hw1];exact(AC _ _).alloc (AB _) _
 have hb2:ZN w w2:=by rw[hw2];exact hb1.alloc hb1.size _
 have hx1:Blk w1 w.heap.size 258 x.cells:=by rw[hw1];exact Blk.new w _ _
 obtain⟨z,hz⟩:=ZH w.heap.size;have hs1:w1.heap.size=w.heap.size+1:=by rw[hw1];simp
 obtain⟨g,hg⟩:=ZH (w.heap.size+1);have hx2:Blk w2 z 258 x.cells:=by rw[hw2,hz];exact hx1.alloc _
 have hr2:Blk w2 g 46 Ad:=by rw[hw2,hg,<-hs1];exact Blk.new w1 _ _
 have hV2:=h.below hb2;have HS:Hid (∀V,ZN w2 V->V.cell? ⟨b,2,none⟩=some (I s)/\V.cell? ⟨b,3,none⟩=some (I f)/\AJ V b 4 8=some p.cells/\V.cell? ⟨z,0,none⟩=some (I x.choice)/\AJ V z 1 8=some x.name.cells):=fun V hV=>
  ⟨(hV2.below hV).blk.cell 2,(hV2.below hV).blk.cell 3,(hV2.below hV).row_parent,(hx2.below hV hx2.lt).cell 0,x.row_name (hx2.below hV hx2.lt)⟩
 have HS5:Hid (∀V,w2.grownBy V (some g)->V.cell? ⟨b,2,none⟩=some (I s)/\V.cell? ⟨b,3,none⟩=some (I f)/\AJ V b 4 8=some p.cells/\V.cell? ⟨z,0,none⟩=some (I x.choice)/\AJ V z 1 8=some x.name.cells):=fun V hV=>by
  have hbg:b≠g:=by intro e;rw[e]at hV2;exact absurd (CW hV2.blk hr2) (by decide)
  have hzg:z≠g:=by intro e;rw[e]at hx2;exact absurd (CW hx2 hr2) (by decide)
  have hb5:=hV2.blk.kept hV (by intro e;injection e with e;exact hbg e);have hx5:=hx2.kept hV (by intro e;injection e with e;exact hzg e);exact⟨hb5.cell 2,hb5.cell 3,Blk.part hb5 4 p.cells (fun j u hu=>by
   have hj:j<8:=(Aa.1 hu).1;rcases(by omega:j=0∨j=1∨j=2∨j=3∨j=4∨j=5∨j=6∨j=7)with rfl|rfl|rfl|rfl|rfl|rfl|rfl|rfl <;> exact hu),hx5.cell 0,x.row_name hx5⟩
 obtain⟨v,hv⟩:∃v:Vt,v=Vt.mk k s r x.choice f sup p x.name:=⟨_,rfl⟩;rw[<-hv];have HV:=AA hv;have HR:=AA hr2;have HB:=AA hb2;have HW1:=AA hw1;have HW2:=AA hw2;have HZ:=AA hz;have HG:=AA hg;have HGW:Hid (w.heap.size<=g):=by unfold Hid;omega
 clear h hw1 hw2 hx1 hz hg hx2 hr2 hV2 hb1 hb2 hv hs1;go_enter func206,ntmps206;go_upto_region 1 with fail
 simp only[<-HW1.out,<-HW2.out,<-HG.out];simp only[<-HZ.out];refine rgD (fun V=>V.cell? ⟨b,2,none⟩=some (I s)/\V.cell? ⟨b,3,none⟩=some (I f)/\AJ V b 4 8=some p.cells/\V.cell? ⟨z,0,none⟩=some (I x.choice)/\AJ V z 1 8=some x.name.cells) (HS.out _ ((AC _ _).drew)) fun _=>?_
 iterate 19 (refine tkA ?_;go_frame)
 refine tkV 31 19 v.val (fun wq _=>Oy v (.tmp 12) (.tmp 16) (.tmp 17) (.tmp 19) (.tmp 23) (.tmp 24) (.tmp 28) (.tmp 30) rfl (by rw[HV.out];rfl) (by rw[HV.out];rfl) (by rw[HV.out];rfl) (by rw[HV.out];rfl) (by rw[HV.out];rfl) (by rw[HV.out];rfl) (by rw[HV.out];rfl) (by rw[HV.out];rfl) wq) ?_;go_frame;refine rd1 20 fun K hK=>?_
 rw[if_pos (by rfl)];refine BN 46 (.tmp 10) (.tmp 31) (by rfl) g v.cells (by rfl) (by rfl) 46 Ad (HR.out.drew) (by rfl) Au (fun u hu=>BO _ hu) (by rfl) ?_;intro w5 hR5 hg5 yp;refine hK.out _ _ (HS5.out _ (Bd (Am w2 g)|>.trans hg5)) (fun _=>?_);clear hK K;try go_frame
 refine tkD 11 21 ?_;go_frame;refine dnD ?_;go_wp2_with fail
 refine bodyPost_ret (AW (g:=g) (cs:=v.cells) rfl _ _ _ _ _ rfl hR5 underlying46 rfl Au) rfl ⟨rfl,?_⟩;exact HB.out.drew.grown hg5 HB.out.size (ZJ HGW.out)
theorem Lf(h:Fh w b M q s f p A c mo O ow)(X:Int):Calls prog 214 #[.pointer (some ⟨b,0,none⟩),.int .i64 X] w fun e w'=>e= .returned (.bool (decide (q<=((Aw (xOf X) 10:Nat):Int))))/\ZN w w':=by
 have HSz:Hid (∀W,Calls prog 15 #[.int .i64 X] W fun e w'=>e= .returned (.int .i64 ((Aw (xOf X) 10:Nat):Int))/\w'=W):=fun W=>Ct X W
 have HS:Hid (∀V,ZN w V->V.cell? ⟨b,1,none⟩=some (I q)):=fun V hV=>(h.below hV).blk.cell 1
 obtain⟨n,hn⟩:=ZH (Aw (xOf X) 10);rw[<-hn]at HSz ⊢;obtain⟨d,hd⟩:=ZH (decide (q<=(n:Int)));rw[<-hd];have hd':=hd.symm;clear h hn hd;have hbx:ZN w w:=AC _ _;go_enter func214,ntmps214;go_upto_region 1 with fail
 refine rgD (fun V=>V.cell? ⟨b,1,none⟩=some (I q)) (HS.out _ hbx.drew) fun _=>?_
 refine tkD 5 0 ?_;go_frame;refine tkD 7 2 ?_;go_frame;refine tkD 8 3 ?_;go_frame;refine tkD 9 4 ?_;go_frame;refine tkD 10 5 ?_;go_frame;refine rd1 1 fun K hK=>?_
 go_simp;refine(HSz.out _).mono ?_;rintro en w2 ⟨rfl,hw2⟩;replace hw2:=hw2.symm;subst hw2;go_wp2_with fail
 refine hK.out _ _ (HS.out _ hbx.drew) (fun _=>?_);clear hK K;try go_frame
 iterate 2 (refine tkA ?_;go_frame)
 refine dnD ?_;go_wp2;go_ret;exact⟨rfl,hbx.drew⟩
end
end
section
open Go.RowKit
section
variable {α:Type}{c:Be α}{t:TypeId}{w0:World}{g n f F:Nat}{sb lb:Array Value}{lt:α->α->Bool}{l0:List α}
theorem NK(H:Srt c t w0 g n f F sb lb lt l0)(a b:Nat)(w:World)(hw:BG c t g l0 w0 w)(hab:a+1<b)(hb:b<=n):Calls prog 229 #[.agg #[.func (.func F) #[] lb,.func (.func f) #[] sb],.int .i64 (a:Int),.int .i64 (b:Int)] w fun e w'=>e= .returned (.tuple #[])/\BG c t g l0 w w':=by
 obtain⟨L,rfl⟩:∃L,b=a+L:=⟨b-a,by omega⟩;have hL:(((a+L:Nat):Int)-(a:Int))=(L:Int):=by omega
 push_cast at hL
 have HH:=AA H;have hgw:g<w.heap.size:=hw.glt;obtain⟨B,hB⟩:=ZH (w.alloc (.cells #[.func (.func F) #[] lb,.func (.func f) #[] sb] 190));have h0B:BG c t g l0 w0 B:=by rw[hB];exact hw.alloc _
 have hBB:BG c t g l0 B B:=h0B.self;have hBx:Blk B w.heap.size 190 #[.func (.func F) #[] lb,.func (.func f) #[] sb]:=by rw[hB];exact Blk.new _ _ _
 have yH:Hid (∀V,BG c t g l0 B V->BG c t g l0 w V):=fun V h=>by rw[hB]at h;exact h.off
 have HB0:=AA h0B;have HC:Hid (∀V,BG c t g l0 B V->V.cell? ⟨w.heap.size,0,none⟩=some (.func (.func F) #[] lb)/\V.cell? ⟨w.heap.size,1,none⟩=some (.func (.func f) #[] sb)):=fun V h=>⟨(h.box hBx (by omega)).cell 0,(h.box hBx (by omega)).cell 1⟩
 have eg:=H.eg;have hn6:=H.small;have HW:=AA hB;have HBB:=AA hBB;clear hw hB h0B hBB hBx H;go_enter func229,ntmps229;go_upto_region 1 with fail
 simp only[<-HW.out]
 push_cast
 go_upto_region 5 with fail
 go_loopw [9] (fun iv wr=>∃z:Int,iv= .int .i64 z/\-1<=z/\z<n/\Hid (BG c t g l0 B wr)) (fun iv _=>(intOf iv+1).toNat)
 case atStart=>exact⟨_,rfl,by omega,by omega,HBB⟩
 case round=>
  obtain⟨z,rfl,hz,hzn,HP⟩:=hrel;obtain⟨c0,c1⟩:=HC.out _ HP.out;by_cases h1:0<=z
  ·have d1:decide (0<=z)=true:=by simp;omega
   obtain⟨m,rfl⟩:∃m:Nat,z=(m:Int):=⟨z.toNat,by omega⟩;go_wp2_with (go_at_call 267;refine(Iv HH.out m L a _ (HB0.out.trans HP.out) (by omega) (by omega)).mono ?_;rintro en w5 ⟨rfl,hp⟩;have HP5:=AA (HP.out.trans hp);obtain⟨c0,c1⟩:=HC.out _ (HP.out.trans hp);clear hp)
   go_roundw
   case rel=>exact⟨_,rfl,by omega,by omega,HP5⟩
   case measure=>simp[intOf]
  ·have d1:decide (0<=z)=false:=by simp;omega
   go_wp2
   go_loopw [10] (fun iv wr=>∃z:Int,iv= .int .i64 z/\-1<=z/\z<(L:Int)/\Hid (BG c t g l0 B wr)) (fun iv _=>(intOf iv+1).toNat)
   case atStart=>exact⟨_,rfl,by omega,by omega,HP⟩
   case round=>
    obtain⟨y,rfl,hy,hyn,HP⟩:=hrel;obtain⟨c0,c1⟩:=HC.out _ HP.out;by_cases h2:0<=y
    ·have d2:decide (0<=y)=true:=by simp;omega
     obtain⟨m,rfl⟩:∃m:Nat,y=(m:Int):=⟨y.toNat,by omega⟩;obtain⟨w6,xN,hp⟩:=HH.out.swap HB0.out HP.out (a) (a+m) (by omega) (by omega) (by omega);try push_cast at xN
     have HP6:=AA hp;obtain⟨c0',c1'⟩:=HC.out _ hp;clear hp;go_wp2_with (go_at_call 267;refine(Iv HH.out 0 m a _ (HB0.out.trans HP6.out) (by omega) (by omega)).mono ?_;rintro en w7 ⟨rfl,hp⟩;have HP7:=AA (HP6.out.trans hp);obtain⟨c0,c1⟩:=HC.out _ (HP6.out.trans hp);clear hp)
     go_roundw
     case rel=>exact⟨_,rfl,by omega,by omega,HP7⟩
     case measure=>simp[intOf]
    ·have d2:decide (0<=y)=false:=by simp;omega
     go_wp2
     first
      |go_end0
      |refine bodyPost_ret (results_none rfl _ _ _) rfl ?_
     exact⟨rfl,yH.out _ HP.out⟩
theorem Fi(H:Srt c t w0 g n f F sb lb lt l0)(a b:Nat)(w:World)(hw:BG c t g l0 w0 w)(hab:a<b)(hb:b<=n):Calls prog 232 #[.agg #[.func (.func F) #[] lb,.func (.func f) #[] sb],.int .i64 (a:Int),.int .i64 (b:Int)] w fun e w'=>e= .returned (.tuple #[])/\BG c t g l0 w w':=by
 have HH:=AA H;have hgw:g<w.heap.size:=hw.glt;obtain⟨B,hB⟩:=ZH (w.alloc (.cells #[.func (.func F) #[] lb,.func (.func f) #[] sb] 190));have h0B:BG c t g l0 w0 B:=by rw[hB];exact hw.alloc _
 have hBB:BG c t g l0 B B:=h0B.self;have hBx:Blk B w.heap.size 190 #[.func (.func F) #[] lb,.func (.func f) #[] sb]:=by rw[hB];exact Blk.new _ _ _
 have yH:Hid (∀V,BG c t g l0 B V->BG c t g l0 w V):=fun V h=>by rw[hB]at h;exact h.off
 have HB0:=AA h0B;have HC:Hid (∀V,BG c t g l0 B V->V.cell? ⟨w.heap.size,0,none⟩=some (.func (.func F) #[] lb)/\V.cell? ⟨w.heap.size,1,none⟩=some (.func (.func f) #[] sb)):=fun V h=>⟨(h.box hBx (by omega)).cell 0,(h.box hBx (by omega)).cell 1⟩
 have eg:=H.eg;have hn6:=H.small;have HW:=AA hB;have HBB:=AA hBB;clear hw hB h0B hBB hBx H;go_enter func232,ntmps232;go_upto_region 1 with fail
 simp only[<-HW.out];go_upto_region 3 with fail
 go_loopw [6,7] (fun iv jv wr=>∃i j:Nat,iv= .int .i64 (i:Int)/\jv= .int .i64 (j:Int)/\i<=n/\j<n/\Hid (BG c t g l0 B wr)) (fun _ jv _=>(intOf jv).toNat)
 case atStart=>exact⟨a,b-1,rfl,by go_num,by omega,by omega,HBB⟩
 case round=>
  obtain⟨i,j,rfl,rfl,hi,hj,HP⟩:=hrel;obtain⟨c0,c1⟩:=HC.out _ HP.out;by_cases h1:i<j
  ·have d1:=ZK (show i<j by omega)
   obtain⟨w5,xN,hp⟩:=HH.out.swap HB0.out HP.out (i) (j) (by omega) (by omega) (by omega);try push_cast at xN
   have HP5:=AA hp;obtain⟨c0',c1'⟩:=HC.out _ hp;clear hp;go_wp2;go_roundw
   case rel=>exact⟨i+1,j-1,by go_num,by go_num,by omega,by omega,HP5⟩
   case measure=>simp[intOf];omega
  ·have d1:=ZL (show j<=i by omega)
   go_wp2
   first
    |go_end0
    |refine bodyPost_ret (results_none rfl _ _ _) rfl ?_
   exact⟨rfl,yH.out _ HP.out⟩
theorem Oz(H:Srt c t w0 g n f F sb lb lt l0)(a b:Nat)(w:World)(hw:BG c t g l0 w0 w)(hab:a<=b)(hb:b<=n):Calls prog 179 #[.agg #[.func (.func F) #[] lb,.func (.func f) #[] sb],.int .i64 (a:Int),.int .i64 (b:Int)] w fun e w'=>e= .returned (.tuple #[])/\BG c t g l0 w w':=by
 have HH:=AA H;have hgw:g<w.heap.size:=hw.glt;obtain⟨B,hB⟩:=ZH (w.alloc (.cells #[.func (.func F) #[] lb,.func (.func f) #[] sb] 190));have h0B:BG c t g l0 w0 B:=by rw[hB];exact hw.alloc _
 have hBB:BG c t g l0 B B:=h0B.self;have hBx:Blk B w.heap.size 190 #[.func (.func F) #[] lb,.func (.func f) #[] sb]:=by rw[hB];exact Blk.new _ _ _
 have yH:Hid (∀V,BG c t g l0 B V->BG c t g l0 w V):=fun V h=>by rw[hB]at h;exact h.off
 have HB0:=AA h0B;have HC:Hid (∀V,BG c t g l0 B V->V.cell? ⟨w.heap.size,0,none⟩=some (.func (.func F) #[] lb)/\V.cell? ⟨w.heap.size,1,none⟩=some (.func (.func f) #[] sb)):=fun V h=>⟨(h.box hBx (by omega)).cell 0,(h.box hBx (by omega)).cell 1⟩
 have eg:=H.eg;have hn6:=H.small;have HW:=AA hB;have HBB:=AA hBB;clear hw hB h0B hBB hBx H;go_enter func179,ntmps179;go_upto_region 1 with fail
 simp only[<-HW.out];go_wp2
 go_loopw [6] (fun iv wr=>∃i:Nat,iv= .int .i64 (i:Int)/\i<=n+1/\Hid (BG c t g l0 B wr)) (fun iv _=>n+1-(intOf iv).toNat)
 case atStart=>exact⟨a+1,by go_num,by omega,HBB⟩
 case round=>
  obtain⟨i,rfl,hi,HP⟩:=hrel;by_cases h1:i<b
  ·have d1:=ZK (show i<b by omega)
   go_wp2
   go_loopw [7] (fun jv wr=>∃j:Nat,jv= .int .i64 (j:Int)/\j<=i/\Hid (BG c t g l0 B wr)) (fun jv _=>(intOf jv).toNat)
   case atStart=>exact⟨i,rfl,by omega,HP⟩
   case round=>
    obtain⟨j,rfl,hj,HP⟩:=hrel;obtain⟨c0,c1⟩:=HC.out _ HP.out;by_cases h2:a<j
    ·have d2:=ZK (show a<j by omega)
     go_wp2_with fail
     have hl:=HH.out.less HB0.out HP.out (j) (j-1) (by omega) (by omega);try push_cast at hl
     rw[show((j-1:Nat):Int)=(j:Int)-1 from by omega]at hl;refine hl.mono ?_;clear hl;rintro en w5 ⟨k5,rfl,hp⟩;have HP5:=AA hp;obtain⟨c0,c1⟩:=HC.out _ hp;clear hp;cases k5 with
     |true=>
      obtain⟨w6,xN,hp⟩:=HH.out.swap HB0.out HP5.out (j) (j-1) (by omega) (by omega) (by omega);try push_cast at xN
      rw[show((j-1:Nat):Int)=(j:Int)-1 from by omega]at xN;have HP6:=AA hp;obtain⟨c0',c1'⟩:=HC.out _ hp;clear hp;go_wp2;go_roundw
      case rel=>exact⟨j-1,by go_num,by omega,HP6⟩
      case measure=>simp[intOf];omega
     |false=>
      go_wp2;go_roundw
      case rel=>exact⟨i+1,by go_num,by omega,HP5⟩
      case measure=>simp[intOf];omega
    ·have d2:=ZL (show j<=a by omega)
     go_wp2;go_roundw
     case rel=>exact⟨i+1,by go_num,by omega,HP⟩
     case measure=>simp[intOf];omega
  ·have d1:=ZL (show b<=i by omega)
   go_wp2
   first
    |go_end0
    |refine bodyPost_ret (results_none rfl _ _ _) rfl ?_
   exact⟨rfl,yH.out _ HP.out⟩
end
section
variable {α:Type}{c:Be α}{t:TypeId}{w0:World}{g n f F:Nat}{sb lb:Array Value}{lt:α->α->Bool}{l0:List α}
structure F7 (c:Be α)(t:TypeId)(g:Nat)(l0:List α)(w0:World)(sp:Nat)(V:World):Prop where
 row:BG c t g l0 w0 V
 new:w0.heap.size<=sp
 ne:sp≠g
 cell:∃z:Int,Blk V sp 3 #[.int .i64 z]
theorem F7.below{sp:Nat}{V W:World}(h:F7 c t g l0 w0 sp V)(hb:ZN V W):F7 c t g l0 w0 sp W:=by
 obtain⟨z,hz⟩:=h.cell;exact⟨h.row.below hb,h.new,h.ne,z,hz.below hb hz.lt⟩
theorem F7.alloc{sp:Nat}{V:World}(h:F7 c t g l0 w0 sp V)(o:Obj):F7 c t g l0 w0 sp (V.alloc o):=by
 obtain⟨z,hz⟩:=h.cell;exact⟨h.row.alloc o,h.new,h.ne,z,hz.alloc o⟩
theorem F7.store{sp:Nat}{V:World}(h:F7 c t g l0 w0 sp V)(u:Int):F7 c t g l0 w0 sp (V.setCell ⟨sp,0,none⟩ (.int .i64 u)):=by
 obtain⟨z,hz⟩:=h.cell;obtain⟨l,h1,h2⟩:=h.row;have hn:=h.new;exact⟨⟨l,⟨h1.blk.far (fun e=>h.ne e.symm) _,⟨h1.kept.os,h1.kept.tape,h1.kept.output,by simpa[World.setCell]using h1.kept.size,fun i hi hne=>(Below.heap_setCell V ⟨sp,0,none⟩ _ i (by show i≠sp;omega)).trans (h1.kept.block i hi hne)⟩⟩,h2⟩,h.new,h.ne,u,hz.put 0 _⟩
theorem Bu{V W:World}{r:Option Nat}(hb:ZN V W):V.grownBy W r:=⟨hb.os,hb.tape,hb.output,hb.size,fun i hi _=>hb.block i hi⟩
theorem Srt.less0{V:World}(H:Srt c t w0 g n f F sb lb lt l0)(hV:BG c t g l0 w0 V)(i j:Nat)(hi:i<n)(hj:j<n):Calls prog F (#[.int .i64 (i:Int),.int .i64 (j:Int)]++lb) V fun e w'=>∃k,e= .returned (.bool k)/\ZN V w':=by
 obtain⟨l,h1,h2⟩:=hV;have hl:l.length=n:=h2.length_eq.trans H.len;obtain⟨x,hx⟩:∃x,l[i]? =some x:=⟨_,AD (by omega)⟩;obtain⟨y,hy⟩:∃y,l[j]? =some y:=⟨_,AD (by omega)⟩;exact(H.le V l i j x y h1 h2 hx hy).mono fun e w' h=>⟨_,h.1,h.2⟩
def Wh(c:Be α)(t:TypeId)(g:Nat)(l0:List α)(w0:World)(sp lo hi:Nat)(w:World)(e:Ending)(w':World):Prop:=
 ∃x y:Nat,e= .returned (.tuple #[.int .i64 (x:Int),.int .i64 (y:Int)])/\(lo<=x/\x<hi)/\(lo<=y/\y<hi)/\F7 c t g l0 w0 sp w'/\w.grownBy w' (some sp)
def NL(c:Be α)(t:TypeId)(g:Nat)(l0:List α)(w0:World)(sp lo hi:Nat)(w:World)(e:Ending)(w':World):Prop:=
 ∃x:Nat,e= .returned (.int .i64 (x:Int))/\(lo<=x/\x<hi)/\F7 c t g l0 w0 sp w'/\w.grownBy w' (some sp)
theorem IQ(H:Srt c t w0 g n f F sb lb lt l0)(sp lo hi a b:Nat)(w:World)(hw:F7 c t g l0 w0 sp w)(ha:lo<=a/\a<hi)(hb:lo<=b/\b<hi)(hh:hi<=n):Calls prog 279 #[.agg #[.func (.func F) #[] lb,.func (.func f) #[] sb],.int .i64 (a:Int),.int .i64 (b:Int),(.pointer (some ⟨sp,0,none⟩))] w (Wh c t g l0 w0 sp lo hi w):=by
 have HH:=AA H;have eg:=H.eg;have hn6:=H.small;have HW:=AA hw;obtain⟨z,hz⟩:=hw.cell;obtain⟨B,hB⟩:=ZH (w.alloc (.cells #[.func (.func F) #[] lb,.func (.func f) #[] sb] 190));have hBx:Blk B w.heap.size 190 #[.func (.func F) #[] lb,.func (.func f) #[] sb]:=by rw[hB];exact Blk.new _ _ _
 have hSB:F7 c t g l0 w0 sp B:=by rw[hB];exact hw.alloc _
 have hgB:w.grownBy B (some sp):=by rw[hB];exact World.grownBy_alloc _ _ _
 have c0:B.cell? ⟨w.heap.size,0,none⟩=some (.func (.func F) #[] lb):=hBx.cell 0;have HB:=AA hB;have HS:=AA hSB;have HG:=AA hgB;clear hw hz hB hBx hSB hgB H;go_enter func279,ntmps279;go_upto_region 1 with fail
 simp only[<-HB.out];go_wp2_with fail
 refine(HH.out.less0 HS.out.row b a (by omega) (by omega)).mono ?_;rintro en w2 ⟨k,rfl,hb2⟩;have hS2:=HS.out.below hb2;obtain⟨z2,hz2⟩:=hS2.cell;have HS2:=AA hS2;have HG2:Hid (w.grownBy w2 (some sp)):=HG.out.trans (Bu hb2);have y0:w2.cell? ⟨sp,0,none⟩=some (.int .i64 z2):=hz2.cell 0;have y1:w2.frozen? ⟨sp,0,none⟩=false:=hz2.frozen 0;clear hb2 hS2 hz2 c0;cases k with
 |false=>
  go_wp2;go_ret2;exact⟨a,b,rfl,ha,hb,HS2.out,HG2.out⟩
 |true=>
  go_wp2;go_ret2;exact⟨b,a,rfl,hb,ha,HS2.out.store _,Bl HG2.out rfl _⟩
theorem IR(H:Srt c t w0 g n f F sb lb lt l0)(sp lo hi a b d:Nat)(w:World)(hw:F7 c t g l0 w0 sp w)(ha:lo<=a/\a<hi)(hb:lo<=b/\b<hi)(hd:lo<=d/\d<hi)(hh:hi<=n):Calls prog 271 #[.agg #[.func (.func F) #[] lb,.func (.func f) #[] sb],.int .i64 (a:Int),.int .i64 (b:Int),.int .i64 (d:Int),(.pointer (some ⟨sp,0,none⟩))] w (NL c t g l0 w0 sp lo hi w):=by
 have HH:=AA H;have eg:=H.eg;have hn6:=H.small;obtain⟨B,hB⟩:=ZH (w.alloc (.cells #[.func (.func F) #[] lb,.func (.func f) #[] sb] 190));have hBx:Blk B w.heap.size 190 #[.func (.func F) #[] lb,.func (.func f) #[] sb]:=by rw[hB];exact Blk.new _ _ _
 have hSB:F7 c t g l0 w0 sp B:=by rw[hB];exact hw.alloc _
 have hgB:w.grownBy B (some sp):=by rw[hB];exact World.grownBy_alloc _ _ _
 have hspw:sp<w.heap.size:=by obtain⟨z,hz⟩:=hw.cell;exact hz.lt
 have HC:Hid (∀V,B.grownBy V (some sp)->V.cell? ⟨w.heap.size,0,none⟩=some (.func (.func F) #[] lb)/\V.cell? ⟨w.heap.size,1,none⟩=some (.func (.func f) #[] sb)):=fun V h=>⟨(hBx.kept h (by intro e;injection e with e;omega)).cell 0,(hBx.kept h (by intro e;injection e with e;omega)).cell 1⟩
 obtain⟨c0,c1⟩:=HC.out B (Am B sp);have HB:=AA hB;have HS:=AA hSB;have HG:=AA hgB;have HR:Hid (B.grownBy B (some sp)):=Am B sp;clear hw hB hBx hSB hgB H;go_enter func271,ntmps271;go_upto_region 1 with fail
 simp only[<-HB.out];go_upto_region 2 with(go_at_call 279;refine(IQ HH.out sp lo hi a b _ HS.out ha hb hh).mono ?_;rintro en w2 ⟨x,y,rfl,hx,hy,hs,hg⟩;have HS2:=AA hs;have HR2:=AA (HR.out.trans hg);obtain⟨c0,c1⟩:=HC.out _ (HR.out.trans hg);clear hs hg)
 go_upto_region 3 with(go_at_call 279;refine(IQ HH.out sp lo hi y d _ HS2.out hy hd hh).mono ?_;rintro en w3 ⟨p,q,rfl,hp,hq,hs,hg⟩;have HS3:=AA hs;have HR3:=AA (HR2.out.trans hg);obtain⟨c0,c1⟩:=HC.out _ (HR2.out.trans hg);clear hs hg)
 go_wp2_with (go_at_call 279;refine(IQ HH.out sp lo hi x p _ HS3.out hx hp hh).mono ?_;rintro en w4 ⟨r,s,rfl,hr,hsb,hs,hg⟩;have HS4:=AA hs;have HR4:=AA (HR3.out.trans hg);obtain⟨c0,c1⟩:=HC.out _ (HR3.out.trans hg);clear hs hg)
 go_ret;exact⟨s,rfl,hsb,HS4.out,HG.out.trans HR4.out⟩
theorem IS(H:Srt c t w0 g n f F sb lb lt l0)(sp lo hi a:Nat)(w:World)(hw:F7 c t g l0 w0 sp w)(ha:lo+1<=a/\a+1<hi)(hh:hi<=n):Calls prog 270 #[.agg #[.func (.func F) #[] lb,.func (.func f) #[] sb],.int .i64 (a:Int),(.pointer (some ⟨sp,0,none⟩))] w (NL c t g l0 w0 sp lo hi w):=by
 have HM:Hid (∀V,F7 c t g l0 w0 sp V->Calls prog 271 #[.agg #[.func (.func F) #[] lb,.func (.func f) #[] sb],.int .i64 ((a:Int)-1),.int .i64 (a:Int),.int .i64 ((a:Int)+1),(.pointer (some ⟨sp,0,none⟩))] V (NL c t g l0 w0 sp lo hi V)):=fun V hV=>by
  have h:=IR H sp lo hi (a-1) a (a+1) V hV (by omega) (by omega) (by omega) hh;rwa[show((a-1:Nat):Int)=(a:Int)-1 from by omega,show((a+1:Nat):Int)=(a:Int)+1 from by omega]at h
 have HH:=AA H;have eg:=H.eg;have hn6:=H.small;obtain⟨B,hB⟩:=ZH (w.alloc (.cells #[.func (.func F) #[] lb,.func (.func f) #[] sb] 190));have hBx:Blk B w.heap.size 190 #[.func (.func F) #[] lb,.func (.func f) #[] sb]:=by rw[hB];exact Blk.new _ _ _
 have hSB:F7 c t g l0 w0 sp B:=by rw[hB];exact hw.alloc _
 have hgB:w.grownBy B (some sp):=by rw[hB];exact World.grownBy_alloc _ _ _
 have hspw:sp<w.heap.size:=by obtain⟨z,hz⟩:=hw.cell;exact hz.lt
 have HC:Hid (∀V,B.grownBy V (some sp)->V.cell? ⟨w.heap.size,0,none⟩=some (.func (.func F) #[] lb)/\V.cell? ⟨w.heap.size,1,none⟩=some (.func (.func f) #[] sb)):=fun V h=>⟨(hBx.kept h (by intro e;injection e with e;omega)).cell 0,(hBx.kept h (by intro e;injection e with e;omega)).cell 1⟩
 obtain⟨c0,c1⟩:=HC.out B (Am B sp);have HB:=AA hB;have HS:=AA hSB;have HG:=AA hgB;have HR:Hid (B.grownBy B (some sp)):=Am B sp;clear hw hB hBx hSB hgB H;go_enter func270,ntmps270;go_upto_region 1 with fail
 simp only[<-HB.out];go_wp2_with (go_at_call 271;refine(HM.out _ HS.out).mono ?_;rintro en w2 ⟨x,rfl,hx,hs,hg⟩;have HS2:=AA hs;have HR2:=AA hg;clear hs hg)
 go_ret;exact⟨x,rfl,hx,HS2.out,HG.out.trans HR2.out⟩
theorem MY{A B V:World}{sp r:Nat}(hb:ZN A B)(hg:B.grownBy V (some sp))(hs:A.heap.size<=sp):A.grownBy V (some r):=
 ⟨hg.os.trans hb.os,hg.tape.trans hb.tape,hg.output.trans hb.output,AG hb.size hg.size,fun i hi _=>(hg.block i (Nat.lt_of_lt_of_le hi hb.size) (by intro e;injection e with e;omega)).trans (hb.block i hi)⟩
def X3(c:Be α)(t:TypeId)(g:Nat)(l0:List α)(a b:Nat)(w:World)(e:Ending)(w':World):Prop:=
 ∃(x:Nat) (h:Int),e= .returned (.tuple #[.int .i64 (x:Int),.int .i64 h])/\(a<=x/\x<b)/\BG c t g l0 w w'
theorem MZ(H:Srt c t w0 g n f F sb lb lt l0)(a b:Nat)(w:World)(hw:BG c t g l0 w0 w)(hgw:g<w.heap.size)(hab:a+12<b)(hb:b<=n):Calls prog 231 #[.agg #[.func (.func F) #[] lb,.func (.func f) #[] sb],.int .i64 (a:Int),.int .i64 (b:Int)] w (X3 c t g l0 a b w):=by
 obtain⟨L,hbL⟩:∃L,b=a+L:=⟨b-a,by omega⟩;have hL:((b:Int)-(a:Int))=(L:Int):=by omega
 obtain⟨q,hq⟩:=ZH (L/4);have hq1:4*q<=L/\L<4*q+4:=by omega
 have hq2:(L:Int)/4=(q:Int):=by omega
 have hL12:12<L:=by omega
 have dL8:decide (8<=(L:Int))=true:=by simp;omega
 have hbb:a+L<=n:=by omega
 have HbL:=AA hbL;clear hq hbL;have HH:=AA H;have eg:=H.eg;have hn6:=H.small;obtain⟨B,hB⟩:=ZH (w.alloc (.cells #[.func (.func F) #[] lb,.func (.func f) #[] sb] 190));obtain⟨sp,hsp⟩:=ZH B.heap.size;obtain⟨B2,hB2⟩:=ZH (B.alloc (.cells #[.int .i64 0] 3));have hsw:sp=w.heap.size+1:=by rw[hsp,hB];simp
 have hIU:Blk B w.heap.size 190 #[.func (.func F) #[] lb,.func (.func f) #[] sb]:=by rw[hB];exact Blk.new _ _ _
 have hBx:Blk B2 w.heap.size 190 #[.func (.func F) #[] lb,.func (.func f) #[] sb]:=by rw[hB2];exact hIU.alloc _
 have hbw:ZN w B2:=by rw[hB2,hB];exact((AC _ _).alloc (AB _) _).alloc (by simp) _
 have hS2:F7 c t g l0 w0 sp B2:=⟨by rw[hB2,hB];exact(hw.alloc _).alloc _,by have:=hw.size;omega,by omega,0,by rw[hB2,hsp];exact Blk.new _ _ _⟩;have HC:Hid (∀V,B2.grownBy V (some sp)->V.cell? ⟨w.heap.size,0,none⟩=some (.func (.func F) #[] lb)/\V.cell? ⟨w.heap.size,1,none⟩=some (.func (.func f) #[] sb)):=fun V h=>⟨(hBx.kept h (by intro e;injection e with e;omega)).cell 0,(hBx.kept h (by intro e;injection e with e;omega)).cell 1⟩
 have hIV:Hid (w.heap.size<=sp):=by unfold Hid;omega
 have HB:=AA hB;have HB2:=AA hB2;have HSp:=AA hsp;have HS:=AA hS2;have HBw:=AA hbw;have HR:Hid (B2.grownBy B2 (some sp)):=Am B2 sp;obtain⟨c0,c1⟩:=HC.out B2 (Am B2 sp);clear hw hB hBx hIU hB2 hsp hsw hS2 hbw H;go_enter func231,ntmps231;go_upto_region 1 with fail
 simp only[<-HB.out];go_upto_region 3 with fail
 simp only[<-HB2.out,<-HSp.out];by_cases h50:50<=L
 ·have d50:decide (50<=(L:Int))=true:=by simp;omega
  go_upto_region 9 with(go_at_call 270;have hl:=IS HH.out sp a (a+L) (a+q) _ HS.out (by omega) hbb;push_cast at hl;refine hl.mono ?_;clear hl;rintro en w5 ⟨x1,rfl,hx1,hs,hg⟩;have HS5:=AA hs;have HR5:=AA (HR.out.trans hg);obtain⟨c0,c1⟩:=HC.out _ (HR.out.trans hg);clear hs hg)
  go_upto_region 10 with(go_at_call 270;have hl:=IS HH.out sp a (a+L) (a+q*2) _ HS5.out (by omega) hbb;push_cast at hl;refine hl.mono ?_;clear hl;rintro en w6 ⟨x2,rfl,hx2,hs,hg⟩;have HS6:=AA hs;have HR6:=AA (HR5.out.trans hg);obtain⟨c0,c1⟩:=HC.out _ (HR5.out.trans hg);clear hs hg)
  go_upto_region 11 with(go_at_call 270;have hl:=IS HH.out sp a (a+L) (a+q*3) _ HS6.out (by omega) hbb;push_cast at hl;refine hl.mono ?_;clear hl;rintro en w7 ⟨x3,rfl,hx3,hs,hg⟩;have HS7:=AA hs;have HR7:=AA (HR6.out.trans hg);obtain⟨c0,c1⟩:=HC.out _ (HR6.out.trans hg);clear hs hg)
  go_upto_region 12 with(go_at_call 271;have hl:=IR HH.out sp a (a+L) x1 x2 x3 _ HS7.out hx1 hx2 hx3 hbb;push_cast at hl;refine hl.mono ?_;clear hl;rintro en w9 ⟨x,rfl,hx,hs,hg⟩;have HS9:=AA hs;have HR9:=AA (HR7.out.trans hg);obtain⟨c0,c1⟩:=HC.out _ (HR7.out.trans hg);clear hs hg)
  ·rw[<-HbL.out]at hx;obtain⟨z,hz⟩:=HS9.out.cell;have y0:=hz.cell 0;clear hz;simp at y0;have HPo:Hid (BG c t g l0 w w9):=by
    obtain⟨l,h1,h2⟩:=HS9.out.row;exact⟨l,⟨h1.blk,MY HBw.out HR9.out hIV.out⟩,h2⟩
   by_cases z0:z=0
   ·have e0:(z==0)=true:=by rw[z0];rfl
    go_wp2;go_ret2;exact⟨x,1,rfl,hx,HPo.out⟩
   ·have e0:(z==0)=false:=by simp[z0]
    by_cases z1:z=12
    ·have e1:(z==12)=true:=by rw[z1];rfl
     go_wp2;go_ret2;exact⟨x,2,rfl,hx,HPo.out⟩
    ·have e1:(z==12)=false:=by simp[z1]
     go_wp2;go_ret2;exact⟨x,0,rfl,hx,HPo.out⟩
 ·have d50:decide (50<=(L:Int))=false:=by simp;omega
  go_upto_region 12 with(go_at_call 271;have hl:=IR HH.out sp a (a+L) (a+q) (a+q*2) (a+q*3) _ HS.out (by omega) (by omega) (by omega) hbb;push_cast at hl;refine hl.mono ?_;clear hl;rintro en w9 ⟨x,rfl,hx,hs,hg⟩;have HS9:=AA hs;have HR9:=AA (HR.out.trans hg);obtain⟨c0,c1⟩:=HC.out _ (HR.out.trans hg);clear hs hg)
  ·rw[<-HbL.out]at hx;obtain⟨z,hz⟩:=HS9.out.cell;have y0:=hz.cell 0;clear hz;simp at y0;have HPo:Hid (BG c t g l0 w w9):=by
    obtain⟨l,h1,h2⟩:=HS9.out.row;exact⟨l,⟨h1.blk,MY HBw.out HR9.out hIV.out⟩,h2⟩
   by_cases z0:z=0
   ·have e0:(z==0)=true:=by rw[z0];rfl
    go_wp2;go_ret2;exact⟨x,1,rfl,hx,HPo.out⟩
   ·have e0:(z==0)=false:=by simp[z0]
    by_cases z1:z=12
    ·have e1:(z==12)=true:=by rw[z1];rfl
     go_wp2;go_ret2;exact⟨x,2,rfl,hx,HPo.out⟩
    ·have e1:(z==12)=false:=by simp[z1]
     go_wp2;go_ret2;exact⟨x,0,rfl,hx,HPo.out⟩
end
end
end Go.Proofs.YtadllffeoibelaaGreat
