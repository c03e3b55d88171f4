/-
  Parts of the proof. No condition.
-/
import Derived.Test.YtadllffeoibelaaGreatS7
import Derived.Test.YtadllffeoibelaaGreatS6
open Go.Proofs.Tryz
namespace Go.Proofs.YtadllffeoibelaaGreat
set_option maxRecDepth 100000
set_option maxHeartbeats 32000000
set_option linter.all false
section
open Go.RowKit
attribute [local go_sem ↓] Go.wp_at_zero Go.wp_at_succ Aq
attribute [local go_sem] BE AR AX AU
theorem DZ{P:Program}(w:World){o:Oper}{a:Act}{K:Act->World->Prop}{Q:Exit->Act->World->Prop}(d:Option Tmp)(hd:o.dst=d)(s x:Operand)(t:TypeId)(hop:o.op=Op.call {callee:=Callee.builtin Builtin.append,args:=#[s,x],argTypes:=#[t,t]})
  (e:TypeId) (i:TypeInfo) (z:Value) (size bytes:Nat) (h1:P.underlying t=some (.slice e)) (h2:P.info? e=some i) (h3:i.zero=some z) (h4:i.size=size) (h5:i.bytes=bytes) (h6:z.cells.size=size) (h7:0<size)
  (ao:Option Addr) (n cap:Nat) (olds:List Value) (hs:a.eval s= .slice ao n cap) (hAm:ao=none->n=0/\cap=0) (hlo:olds.length=n*size) (holds:∀b,ao=some b->∀j u,olds[j]? =some u->w.cell? (b.add j)=some u)
  (ad:Addr) (m c:Nat) (news:List Value) (hx:a.eval x= .slice (some ad) m c) (hn:news.length=m*size) (hc:∀j u,news[j]? =some u->w.cell? (ad.add j)=some u) (h1c:∀u∈news,u.oneCell'=true)
  (hHX:cap<n+m) (b1:n+m<=maxLen) (b2:(n+m)*bytes<=140737488355328)
  (hK:∀v' w',w'.ownsRow w.heap.size e size v' (n+m) (olds++news)->w.grownBy w' none->K (a.put d v') w'):o.wp P a w K Q:=by
 subst hd;cases ao with
 |some b=>
  obtain⟨v',w',xK,r1,r2⟩:=run_append_arg_grows (P:=P) w t o.type e i z size bytes h1 h2 h3 h4 h5 h6 h7 b n cap olds hlo (holds b rfl) ad m c news hn hc hHX b1 b2;unfold Oper.wp;simp[execOp,hop,resolve,invoke,builtin,hs,hx,xK,Result.andThen];exact hK v' w' r1 r2
 |none=>
  obtain⟨rfl,rfl⟩:=hAm rfl;obtain rfl:olds=[]:=AQ (by simpa using hlo);obtain⟨v',w',xK,r1,r2,_⟩:=run_append_own (P:=P) w w.heap.size t o.type e i z size bytes h1 h2 h3 h4 h5 h6 h7 (.slice none 0 0) 0 [] (World.ownsRow_nil w _ e size) ad m c news hn hc h1c b1 b2 (AB _);unfold Oper.wp;simp[execOp,hop,resolve,invoke,builtin,hs,hx,xK,Result.andThen];exact hK v' w' r1 r2
theorem Gv(A:Option Addr)(c i:Nat)(w:World):Calls prog 255 #[.slice A 1 c,.int .i64 (i:Int)] w fun e w'=>e= .returned (.slice none 0 0)/\w'=w:=by
 go_enter func255,ntmps255;go_wp2;go_ret;exact⟨rfl,rfl⟩
theorem Ss(d i n k c b o:Nat)(p:List Nm)(up:Nm)(w:World)(hp:p.length=d)(hk:k=2^d)(hn:n=2^(d+1))(hd:d<=40)(hik:i<k)(hc:n<=c)(h1:∀W,Wx w W->Calls prog 255 #[.slice (some ⟨b,o,none⟩) k k,.int .i64 (i:Int)] W (CX W 24 8 d (p.flatMap nmc)))(h2:∀W,Wx w W->Calls prog 91 #[.slice (some ⟨b,o+k*8,none⟩) k (c-k)] W (BW W up)):Calls prog 255 #[.slice (some ⟨b,o,none⟩) n c,.int .i64 (i:Int)] w (CX w 24 8 (d+1) ((p++[up]).flatMap nmc)):=by
 obtain⟨i0,hi,hz0,hz1,hz2⟩:=info_parts Dj;have HP:=AA hp;clear hp;have H1:=AA h1;clear h1;have H2:=AA h2;clear h2;have hk1:1<=k:=by rw[hk];exact Nat.one_le_two_pow
 have hkb:k<=1099511627776:=by rw[hk];exact Nat.pow_le_pow_right (j:=40) (by omega) hd
 have h2k:n=2*k:=by rw[hn,hk,Nat.pow_succ];omega
 have xN:∀W,Calls prog 137 #[.int .i64 (n:Int)] W fun en w'=>en= .returned (.int .i64 (k:Int))/\w'=W:=fun W=>by
  rw[hk];exact EC d n W hn hd
 have HC:=AA xN;clear xN;have zT:((n:Int)==1)=false:=by rw[beq_eq_false_iff_ne];omega
 clear hk hn;subst h2k;have i1:(0:Int)<=(k:Int):=by omega
 have i2:(k:Int)<=(c:Int):=by omega
 have i3:(k:Int)<=((2*k:Nat):Int):=by omega
 have i4:¬c=k:=by omega
 have i5:2*k-k=k:=by omega
 have i6:((2*k:Nat):Int)<=(c:Int):=by omega
 have i7:=Wu (show i<k by omega)
 obtain⟨n,hn⟩:=Wr (2*k);rw[<-hn]at zT HC i3 i5 i6 ⊢;clear hn;go_enter func255,ntmps255;go_upto_region 7 with((go_at_call 137;refine(HC.out _).mono ?_;rintro en w' ⟨rfl,rfl⟩))
 have hR:Blk (w.alloc (Obj.cells BG 24)) w.heap.size 24 BG:=Blk.new w _ _;have hbW:Wx w (w.alloc (Obj.cells BG 24)):=(AC _ _).alloc (AB _) _;generalize (w.alloc (Obj.cells BG 24))=W at*;refine rgD (fun _=>True) (trivial) fun _=>?_
 iterate 5 (refine tkA ?_;go_frame)
 refine tkD 23 6 ?_;go_frame;refine tkD 24 7 ?_;go_frame;refine tkD 25 8 ?_;go_frame;refine rd1 5 fun K hK=>?_
 go_simp;refine(H1.out _ hbW.drew).mono ?_;rintro en w2 ⟨A2,c2,rfl,xG,hb2⟩;have xu:=hbW.drew.trans (hb2.mono hbW.size);have hR2:=hR.drew.below hb2 hR.drew.lt;go_wp2_with fail
 refine hK.out _ _ (trivial) (fun _=>?_);clear hK K;try go_frame
 refine rd1 9 fun K hK=>?_
 go_simp;refine(H2.out _ xu).mono ?_;rintro en w3 ⟨rfl,hb3⟩;have xD:=xu.trans (hb3.mono xu.size);have hR3:=hR2.below hb3 hR2.lt;have xC:=BP xG hb3 (AB _);go_wp2_with fail
 refine hK.out _ _ (trivial) (fun _=>?_);clear hK K;try go_frame
 refine tkD 5 10 ?_;go_frame;refine rd1 11 fun K hK=>?_
 rw[if_pos (by rfl)];refine BU 24 (.tmp 6) (.tmp 26) (by rfl) w.heap.size up.cells (by rfl) (by rfl) 24 BG hR3 rfl Ap ?st1 (by rfl) ?_
 case st1=>exact fun u hu=>GG up hu
 intro w4 hR4 hg4 hs4;refine hK.out _ _ (trivial) (fun _=>?_);clear hK K;try go_frame
 refine dnD ?_;have xI:Wx w w4:=xD.grown hg4 xD.size (by rintro j ⟨⟩;omega);have x4:AK w4 w.heap.size 0 8=some up.cells:=hR4.row 8 rfl;have hE6:xC.1=xC.1:=rfl;clear hE6;have xX:=xC.kept hg4 (.inr fun e=>by have:=(xC.lt _ e).1;have:=hbW.size;have:=hR.lt;simp at*;omega);have hnz:A2=none->d=0/\d=0:=fun e=>by
  rcases xX.2 with⟨hv,h0⟩|⟨g,cap,cur,hv,_⟩
  ·exact⟨h0,h0⟩
  ·injection hv with hA;rw[e]at hA;cases hA
 have HNz:=AA hnz;clear hnz;have hdc:d<=c2:=by
  rcases xX.2 with⟨hv,h0⟩|⟨g,cap,cur,hv,_,_,h1,h2,_⟩
  ·omega
  ·injection hv with _ _ hc;omega
 have hE7:=Rd.of_own xX;have j1:(0:Int)<=(d:Int):=by omega
 have j2:(d:Int)<=(c2:Int):=by omega
 have HW4:Hid (w4.ownsRow W.drew.heap.size 24 8 (.slice A2 d c2) d (p.flatMap nmc)):=xX;clear hR hR2 hR3 xu xD hg4 hs4 hbW;try go_frame
 go_upto_region 9 with fail
 have HLT:Hid (w.heap.size<w4.heap.size):=hR4.lt;clear hR4;refine rgD (fun w'=>AK w' w.heap.size 0 8=some up.cells) (x4) fun _=>?_
 iterate 7 (refine tkA ?_;go_frame)
 refine rd1 7 fun K hK=>?_
 go_simp;refine hK.out _ _ (BC x4 ((AC _ _).drew.alloc (by simp) _) HLT.out) (fun _=>?_);clear hK K;try go_frame
 refine rd1 8 fun K hK=>?_
 rw[if_pos (by rfl)];refine DZ _ (some 47) rfl (.tmp 44) (.tmp 46) _ (by rfl) 24 i0 (Nm.val ⟨0,0,0,0,0,0,0,0⟩) 8 8 underlying75 hi hz0 hz1 hz2 rfl (by decide) A2 d d (p.flatMap nmc) (by rfl) ?an ?al ?ah ⟨w4.heap.size,0,none⟩ 1 1 (nmc up) (by rfl) rfl ?ac ?a1 ?af ?ab ?a2 ?_
 case an=>exact HNz.out
 case al=>rw[AY nmc 8 p (Cm p),HP.out]
 case ah=>
  intro q hq j u hu;rcases hE7 with h|⟨b5,o5,e5,_,hc5⟩
  ·rw[h]at hu;simp at hu
  ·rw[hq]at e5;injection e5 with e5;subst e5
   rw[Addr.add_mid];have:=hc5 j u hu;have hE8:=block_lt_of_cell this;have e6:=Below.heap_alloc w4 (.cells up.cells 24) b5 hE8;show(w4.alloc (.cells up.cells 24)).cell? _=_;rw[World.cell?_of_block (a:=⟨b5,o5+j,none⟩) e6];exact this
 case ac=>
  intro j u hu;rw[Addr.add_mid,Nat.zero_add,<-hu];simp
 case a1=>exact fun u hu=>FC (l:=[up]) (by simpa using hu)
 case af=>omega
 case ab=>unfold maxLen;omega
 case a2=>omega
 intro v5 w5 xW hg5;have HB5:Hid (Wx w4 w5):=((AC _ _).drew.alloc (by simp) _).grown hg5 (by simp) (by rintro j ⟨⟩);refine hK.out _ _ (BC x4 HB5.out HLT.out) (fun _=>?_);clear hK K;try go_frame
 refine tkD 4 9 ?_;go_frame;refine dnD ?_;have xS:=xI.trans (HB5.out.mono xI.size);obtain⟨A5,c5,rfl⟩:=BD xW;go_wp2;go_ret;have e5:(p++[up]).flatMap nmc=p.flatMap nmc++nmc up:=by simp
 exact⟨A5,c5,rfl,BS (by rw[e5];exact xW) (by have:=xI.size;simp;omega),xS⟩
theorem Qo(d i n k c b o:Nat)(p:List Nm)(up:Nm)(w:World)(hp:p.length=d)(h0:d=0)(hk:k=2^d)(hn:n=2^(d+1))(hd:d<=40)(hik:i<k)(hc:n<=c)(h1:∀W,Wx w W->Calls prog 255 #[.slice (some ⟨b,o,none⟩) k k,.int .i64 (i:Int)] W (fun e w'=>e= .returned (.slice none 0 0)/\w'=W))(h2:∀W,Wx w W->Calls prog 91 #[.slice (some ⟨b,o+k*8,none⟩) k (c-k)] W (BW W up)):Calls prog 255 #[.slice (some ⟨b,o,none⟩) n c,.int .i64 (i:Int)] w (CX w 24 8 (d+1) ((p++[up]).flatMap nmc)):=by
 obtain⟨i0,hi,hz0,hz1,hz2⟩:=info_parts Dj;have H0:=AA h0;clear h0;have HP:=AA hp;clear hp;have H1:=AA h1;clear h1;have H2:=AA h2;clear h2;have hk1:1<=k:=by rw[hk];exact Nat.one_le_two_pow
 have hkb:k<=1099511627776:=by rw[hk];exact Nat.pow_le_pow_right (j:=40) (by omega) hd
 have h2k:n=2*k:=by rw[hn,hk,Nat.pow_succ];omega
 have xN:∀W,Calls prog 137 #[.int .i64 (n:Int)] W fun en w'=>en= .returned (.int .i64 (k:Int))/\w'=W:=fun W=>by
  rw[hk];exact EC d n W hn hd
 have HC:=AA xN;clear xN;have zT:((n:Int)==1)=false:=by rw[beq_eq_false_iff_ne];omega
 clear hk hn;subst h2k;have i1:(0:Int)<=(k:Int):=by omega
 have i2:(k:Int)<=(c:Int):=by omega
 have i3:(k:Int)<=((2*k:Nat):Int):=by omega
 have i4:¬c=k:=by omega
 have i5:2*k-k=k:=by omega
 have i6:((2*k:Nat):Int)<=(c:Int):=by omega
 have i7:=Wu (show i<k by omega)
 obtain⟨n,hn⟩:=Wr (2*k);rw[<-hn]at zT HC i3 i5 i6 ⊢;clear hn;go_enter func255,ntmps255;go_upto_region 7 with((go_at_call 137;refine(HC.out _).mono ?_;rintro en w' ⟨rfl,rfl⟩))
 have hR:Blk (w.alloc (Obj.cells BG 24)) w.heap.size 24 BG:=Blk.new w _ _;have hbW:Wx w (w.alloc (Obj.cells BG 24)):=(AC _ _).alloc (AB _) _;generalize (w.alloc (Obj.cells BG 24))=W at*;refine rgD (fun _=>True) (trivial) fun _=>?_
 iterate 5 (refine tkA ?_;go_frame)
 refine tkD 23 6 ?_;go_frame;refine tkD 24 7 ?_;go_frame;refine tkD 25 8 ?_;go_frame;refine rd1 5 fun K hK=>?_
 go_simp;refine(H1.out _ hbW.drew).mono ?_;rintro en w2 ⟨rfl,rfl⟩;have xu:=hbW.drew;have hR2:=hR.drew;go_wp2_with fail
 refine hK.out _ _ (trivial) (fun _=>?_);clear hK K;try go_frame
 refine rd1 9 fun K hK=>?_
 go_simp;refine(H2.out _ xu).mono ?_;rintro en w3 ⟨rfl,hb3⟩;have xD:=xu.trans (hb3.mono xu.size);have hR3:=hR2.below hb3 hR2.lt;go_wp2_with fail
 refine hK.out _ _ (trivial) (fun _=>?_);clear hK K;try go_frame
 refine tkD 5 10 ?_;go_frame;refine rd1 11 fun K hK=>?_
 rw[if_pos (by rfl)];refine BU 24 (.tmp 6) (.tmp 26) (by rfl) w.heap.size up.cells (by rfl) (by rfl) 24 BG hR3 rfl Ap ?st1 (by rfl) ?_
 case st1=>exact fun u hu=>GG up hu
 intro w4 hR4 hg4 hs4;refine hK.out _ _ (trivial) (fun _=>?_);clear hK K;try go_frame
 refine dnD ?_;have xI:Wx w w4:=xD.grown hg4 xD.size (by rintro j ⟨⟩;omega);have x4:AK w4 w.heap.size 0 8=some up.cells:=hR4.row 8 rfl;clear hR hR2 hR3 xu xD hg4 hs4 hbW;try go_frame
 go_upto_region 9 with fail
 have HLT:Hid (w.heap.size<w4.heap.size):=hR4.lt;clear hR4;refine rgD (fun w'=>AK w' w.heap.size 0 8=some up.cells) (x4) fun _=>?_
 iterate 7 (refine tkA ?_;go_frame)
 refine rd1 7 fun K hK=>?_
 go_simp;refine hK.out _ _ (BC x4 ((AC _ _).drew.alloc (by simp) _) HLT.out) (fun _=>?_);clear hK K;try go_frame
 refine rd1 8 fun K hK=>?_
 rw[if_pos (by rfl)];refine DZ _ (some 47) rfl (.tmp 44) (.tmp 46) _ (by rfl) 24 i0 (Nm.val ⟨0,0,0,0,0,0,0,0⟩) 8 8 underlying75 hi hz0 hz1 hz2 rfl (by decide) none 0 0 [] (by rfl) ?an ?al ?ah ⟨w4.heap.size,0,none⟩ 1 1 (nmc up) (by rfl) rfl ?ac ?a1 ?af ?ab ?a2 ?_
 case an=>exact fun _=>⟨rfl,rfl⟩
 case al=>rfl
 case ah=>intro q hq;cases hq
 case ac=>
  intro j u hu;rw[Addr.add_mid,Nat.zero_add,<-hu];simp
 case a1=>exact fun u hu=>FC (l:=[up]) (by simpa using hu)
 case af=>omega
 case ab=>unfold maxLen;omega
 case a2=>omega
 intro v5 w5 xW hg5;have HB5:Hid (Wx w4 w5):=((AC _ _).drew.alloc (by simp) _).grown hg5 (by simp) (by rintro j ⟨⟩);refine hK.out _ _ (BC x4 HB5.out HLT.out) (fun _=>?_);clear hK K;try go_frame
 refine tkD 4 9 ?_;go_frame;refine dnD ?_;have xS:=xI.trans (HB5.out.mono xI.size);obtain⟨A5,c5,rfl⟩:=BD xW;go_wp2;go_ret;have h0:=H0.out;subst h0;have e5:(p++[up]).flatMap nmc=[]++nmc up:=by rw[AQ HP.out];simp
 exact⟨A5,c5,rfl,BS (by rw[e5];exact xW) (by have:=xI.size;simp;omega),xS⟩
theorem Su(d i n k c b o:Nat)(p:List Nm)(up:Nm)(w:World)(hp:p.length=d)(hk:k=2^d)(hn:n=2^(d+1))(hd:d<=40)(hik:k<=i/\i<n)(hc:n<=c)(h1:∀W,Wx w W->Calls prog 255 #[.slice (some ⟨b,o+k*8,none⟩) k (c-k),.int .i64 ((i:Int)-(k:Int))] W (CX W 24 8 d (p.flatMap nmc)))(h2:∀W,Wx w W->Calls prog 91 #[.slice (some ⟨b,o,none⟩) k k] W (BW W up)):Calls prog 255 #[.slice (some ⟨b,o,none⟩) n c,.int .i64 (i:Int)] w (CX w 24 8 (d+1) ((p++[up]).flatMap nmc)):=by
 obtain⟨i0,hi,hz0,hz1,hz2⟩:=info_parts Dj;have HP:=AA hp;clear hp;have H1:=AA h1;clear h1;have H2:=AA h2;clear h2;have hk1:1<=k:=by rw[hk];exact Nat.one_le_two_pow
 have hkb:k<=1099511627776:=by rw[hk];exact Nat.pow_le_pow_right (j:=40) (by omega) hd
 have h2k:n=2*k:=by rw[hn,hk,Nat.pow_succ];omega
 have xN:∀W,Calls prog 137 #[.int .i64 (n:Int)] W fun en w'=>en= .returned (.int .i64 (k:Int))/\w'=W:=fun W=>by
  rw[hk];exact EC d n W hn hd
 have HC:=AA xN;clear xN;have zT:((n:Int)==1)=false:=by rw[beq_eq_false_iff_ne];omega
 clear hk hn;subst h2k;have i1:(0:Int)<=(k:Int):=by omega
 have i2:(k:Int)<=(c:Int):=by omega
 have i3:(k:Int)<=((2*k:Nat):Int):=by omega
 have i4:¬c=k:=by omega
 have i5:2*k-k=k:=by omega
 have i6:((2*k:Nat):Int)<=(c:Int):=by omega
 have i7:=Wv (show k<=i by omega)
 have i8:IntKind.i64.wrap ((i:Int)-(k:Int))=(i:Int)-(k:Int):=by rw[IntKind.wrap_i64];omega
 obtain⟨n,hn⟩:=Wr (2*k);rw[<-hn]at zT HC i3 i5 i6 ⊢;clear hn;go_enter func255,ntmps255;go_upto_region 8 with((go_at_call 137;refine(HC.out _).mono ?_;rintro en w' ⟨rfl,rfl⟩))
 have hR:Blk (w.alloc (Obj.cells BG 24)) w.heap.size 24 BG:=Blk.new w _ _;have hbW:Wx w (w.alloc (Obj.cells BG 24)):=(AC _ _).alloc (AB _) _;generalize (w.alloc (Obj.cells BG 24))=W at*;refine rgD (fun _=>True) (trivial) fun _=>?_
 iterate 6 (refine tkA ?_;go_frame)
 refine tkD 34 7 ?_;go_frame;refine tkD 35 8 ?_;go_frame;refine tkD 36 9 ?_;go_frame;refine tkD 37 10 ?_;go_frame;refine rd1 6 fun K hK=>?_
 go_simp;refine(H1.out _ hbW.drew).mono ?_;rintro en w2 ⟨A2,c2,rfl,xG,hb2⟩;have xu:=hbW.drew.trans (hb2.mono hbW.size);have hR2:=hR.drew.below hb2 hR.drew.lt;go_wp2_with fail
 refine hK.out _ _ (trivial) (fun _=>?_);clear hK K;try go_frame
 refine rd1 11 fun K hK=>?_
 go_simp;refine(H2.out _ xu).mono ?_;rintro en w3 ⟨rfl,hb3⟩;have xD:=xu.trans (hb3.mono xu.size);have hR3:=hR2.below hb3 hR2.lt;have xC:=BP xG hb3 (AB _);go_wp2_with fail
 refine hK.out _ _ (trivial) (fun _=>?_);clear hK K;try go_frame
 refine tkD 5 12 ?_;go_frame;refine rd1 13 fun K hK=>?_
 rw[if_pos (by rfl)];refine BU 24 (.tmp 6) (.tmp 38) (by rfl) w.heap.size up.cells (by rfl) (by rfl) 24 BG hR3 rfl Ap ?st1 (by rfl) ?_
 case st1=>exact fun u hu=>GG up hu
 intro w4 hR4 hg4 hs4;refine hK.out _ _ (trivial) (fun _=>?_);clear hK K;try go_frame
 refine dnD ?_;have xI:Wx w w4:=xD.grown hg4 xD.size (by rintro j ⟨⟩;omega);have x4:AK w4 w.heap.size 0 8=some up.cells:=hR4.row 8 rfl;have hE6:xC.1=xC.1:=rfl;clear hE6;have xX:=xC.kept hg4 (.inr fun e=>by have:=(xC.lt _ e).1;have:=hbW.size;have:=hR.lt;simp at*;omega);have hnz:A2=none->d=0/\d=0:=fun e=>by
  rcases xX.2 with⟨hv,h0⟩|⟨g,cap,cur,hv,_⟩
  ·exact⟨h0,h0⟩
  ·injection hv with hA;rw[e]at hA;cases hA
 have HNz:=AA hnz;clear hnz;have hdc:d<=c2:=by
  rcases xX.2 with⟨hv,h0⟩|⟨g,cap,cur,hv,_,_,h1,h2,_⟩
  ·omega
  ·injection hv with _ _ hc;omega
 have hE7:=Rd.of_own xX;have j1:(0:Int)<=(d:Int):=by omega
 have j2:(d:Int)<=(c2:Int):=by omega
 have HW4:Hid (w4.ownsRow W.drew.heap.size 24 8 (.slice A2 d c2) d (p.flatMap nmc)):=xX;clear hR hR2 hR3 xu xD hg4 hs4 hbW;try go_frame
 go_upto_region 9 with fail
 have HLT:Hid (w.heap.size<w4.heap.size):=hR4.lt;clear hR4;refine rgD (fun w'=>AK w' w.heap.size 0 8=some up.cells) (x4) fun _=>?_
 iterate 7 (refine tkA ?_;go_frame)
 refine rd1 7 fun K hK=>?_
 go_simp;refine hK.out _ _ (BC x4 ((AC _ _).drew.alloc (by simp) _) HLT.out) (fun _=>?_);clear hK K;try go_frame
 refine rd1 8 fun K hK=>?_
 rw[if_pos (by rfl)];refine DZ _ (some 47) rfl (.tmp 44) (.tmp 46) _ (by rfl) 24 i0 (Nm.val ⟨0,0,0,0,0,0,0,0⟩) 8 8 underlying75 hi hz0 hz1 hz2 rfl (by decide) A2 d d (p.flatMap nmc) (by rfl) ?an ?al ?ah ⟨w4.heap.size,0,none⟩ 1 1 (nmc up) (by rfl) rfl ?ac ?a1 ?af ?ab ?a2 ?_
 case an=>exact HNz.out
 case al=>rw[AY nmc 8 p (Cm p),HP.out]
 case ah=>
  intro q hq j u hu;rcases hE7 with h|⟨b5,o5,e5,_,hc5⟩
  ·rw[h]at hu;simp at hu
  ·rw[hq]at e5;injection e5 with e5;subst e5
   rw[Addr.add_mid];have:=hc5 j u hu;have hE8:=block_lt_of_cell this;have e6:=Below.heap_alloc w4 (.cells up.cells 24) b5 hE8;show(w4.alloc (.cells up.cells 24)).cell? _=_;rw[World.cell?_of_block (a:=⟨b5,o5+j,none⟩) e6];exact this
 case ac=>
  intro j u hu;rw[Addr.add_mid,Nat.zero_add,<-hu];simp
 case a1=>exact fun u hu=>FC (l:=[up]) (by simpa using hu)
 case af=>omega
 case ab=>unfold maxLen;omega
 case a2=>omega
 intro v5 w5 xW hg5;have HB5:Hid (Wx w4 w5):=((AC _ _).drew.alloc (by simp) _).grown hg5 (by simp) (by rintro j ⟨⟩);refine hK.out _ _ (BC x4 HB5.out HLT.out) (fun _=>?_);clear hK K;try go_frame
 refine tkD 4 9 ?_;go_frame;refine dnD ?_;have xS:=xI.trans (HB5.out.mono xI.size);obtain⟨A5,c5,rfl⟩:=BD xW;go_wp2;go_ret;have e5:(p++[up]).flatMap nmc=p.flatMap nmc++nmc up:=by simp
 exact⟨A5,c5,rfl,BS (by rw[e5];exact xW) (by have:=xI.size;simp;omega),xS⟩
theorem Qp(d i n k c b o:Nat)(p:List Nm)(up:Nm)(w:World)(hp:p.length=d)(h0:d=0)(hk:k=2^d)(hn:n=2^(d+1))(hd:d<=40)(hik:k<=i/\i<n)(hc:n<=c)(h1:∀W,Wx w W->Calls prog 255 #[.slice (some ⟨b,o+k*8,none⟩) k (c-k),.int .i64 ((i:Int)-(k:Int))] W (fun e w'=>e= .returned (.slice none 0 0)/\w'=W))(h2:∀W,Wx w W->Calls prog 91 #[.slice (some ⟨b,o,none⟩) k k] W (BW W up)):Calls prog 255 #[.slice (some ⟨b,o,none⟩) n c,.int .i64 (i:Int)] w (CX w 24 8 (d+1) ((p++[up]).flatMap nmc)):=by
 obtain⟨i0,hi,hz0,hz1,hz2⟩:=info_parts Dj;have H0:=AA h0;clear h0;have HP:=AA hp;clear hp;have H1:=AA h1;clear h1;have H2:=AA h2;clear h2;have hk1:1<=k:=by rw[hk];exact Nat.one_le_two_pow
 have hkb:k<=1099511627776:=by rw[hk];exact Nat.pow_le_pow_right (j:=40) (by omega) hd
 have h2k:n=2*k:=by rw[hn,hk,Nat.pow_succ];omega
 have xN:∀W,Calls prog 137 #[.int .i64 (n:Int)] W fun en w'=>en= .returned (.int .i64 (k:Int))/\w'=W:=fun W=>by
  rw[hk];exact EC d n W hn hd
 have HC:=AA xN;clear xN;have zT:((n:Int)==1)=false:=by rw[beq_eq_false_iff_ne];omega
 clear hk hn;subst h2k;have i1:(0:Int)<=(k:Int):=by omega
 have i2:(k:Int)<=(c:Int):=by omega
 have i3:(k:Int)<=((2*k:Nat):Int):=by omega
 have i4:¬c=k:=by omega
 have i5:2*k-k=k:=by omega
 have i6:((2*k:Nat):Int)<=(c:Int):=by omega
 have i7:=Wv (show k<=i by omega)
 have i8:IntKind.i64.wrap ((i:Int)-(k:Int))=(i:Int)-(k:Int):=by rw[IntKind.wrap_i64];omega
 obtain⟨n,hn⟩:=Wr (2*k);rw[<-hn]at zT HC i3 i5 i6 ⊢;clear hn;go_enter func255,ntmps255;go_upto_region 8 with((go_at_call 137;refine(HC.out _).mono ?_;rintro en w' ⟨rfl,rfl⟩))
 have hR:Blk (w.alloc (Obj.cells BG 24)) w.heap.size 24 BG:=Blk.new w _ _;have hbW:Wx w (w.alloc (Obj.cells BG 24)):=(AC _ _).alloc (AB _) _;generalize (w.alloc (Obj.cells BG 24))=W at*;refine rgD (fun _=>True) (trivial) fun _=>?_
 iterate 6 (refine tkA ?_;go_frame)
 refine tkD 34 7 ?_;go_frame;refine tkD 35 8 ?_;go_frame;refine tkD 36 9 ?_;go_frame;refine tkD 37 10 ?_;go_frame;refine rd1 6 fun K hK=>?_
 go_simp;refine(H1.out _ hbW.drew).mono ?_;rintro en w2 ⟨rfl,rfl⟩;have xu:=hbW.drew;have hR2:=hR.drew;go_wp2_with fail
 refine hK.out _ _ (trivial) (fun _=>?_);clear hK K;try go_frame
 refine rd1 11 fun K hK=>?_
 go_simp;refine(H2.out _ xu).mono ?_;rintro en w3 ⟨rfl,hb3⟩;have xD:=xu.trans (hb3.mono xu.size);have hR3:=hR2.below hb3 hR2.lt;go_wp2_with fail
 refine hK.out _ _ (trivial) (fun _=>?_);clear hK K;try go_frame
 refine tkD 5 12 ?_;go_frame;refine rd1 13 fun K hK=>?_
 rw[if_pos (by rfl)];refine BU 24 (.tmp 6) (.tmp 38) (by rfl) w.heap.size up.cells (by rfl) (by rfl) 24 BG hR3 rfl Ap ?st1 (by rfl) ?_
 case st1=>exact fun u hu=>GG up hu
 intro w4 hR4 hg4 hs4;refine hK.out _ _ (trivial) (fun _=>?_);clear hK K;try go_frame
 refine dnD ?_;have xI:Wx w w4:=xD.grown hg4 xD.size (by rintro j ⟨⟩;omega);have x4:AK w4 w.heap.size 0 8=some up.cells:=hR4.row 8 rfl;clear hR hR2 hR3 xu xD hg4 hs4 hbW;try go_frame
 go_upto_region 9 with fail
 have HLT:Hid (w.heap.size<w4.heap.size):=hR4.lt;clear hR4;refine rgD (fun w'=>AK w' w.heap.size 0 8=some up.cells) (x4) fun _=>?_
 iterate 7 (refine tkA ?_;go_frame)
 refine rd1 7 fun K hK=>?_
 go_simp;refine hK.out _ _ (BC x4 ((AC _ _).drew.alloc (by simp) _) HLT.out) (fun _=>?_);clear hK K;try go_frame
 refine rd1 8 fun K hK=>?_
 rw[if_pos (by rfl)];refine DZ _ (some 47) rfl (.tmp 44) (.tmp 46) _ (by rfl) 24 i0 (Nm.val ⟨0,0,0,0,0,0,0,0⟩) 8 8 underlying75 hi hz0 hz1 hz2 rfl (by decide) none 0 0 [] (by rfl) ?an ?al ?ah ⟨w4.heap.size,0,none⟩ 1 1 (nmc up) (by rfl) rfl ?ac ?a1 ?af ?ab ?a2 ?_
 case an=>exact fun _=>⟨rfl,rfl⟩
 case al=>rfl
 case ah=>intro q hq;cases hq
 case ac=>
  intro j u hu;rw[Addr.add_mid,Nat.zero_add,<-hu];simp
 case a1=>exact fun u hu=>FC (l:=[up]) (by simpa using hu)
 case af=>omega
 case ab=>unfold maxLen;omega
 case a2=>omega
 intro v5 w5 xW hg5;have HB5:Hid (Wx w4 w5):=((AC _ _).drew.alloc (by simp) _).grown hg5 (by simp) (by rintro j ⟨⟩);refine hK.out _ _ (BC x4 HB5.out HLT.out) (fun _=>?_);clear hK K;try go_frame
 refine tkD 4 9 ?_;go_frame;refine dnD ?_;have xS:=xI.trans (HB5.out.mono xI.size);obtain⟨A5,c5,rfl⟩:=BD xW;go_wp2;go_ret;have h0:=H0.out;subst h0;have e5:(p++[up]).flatMap nmc=[]++nmc up:=by rw[AQ HP.out];simp
 exact⟨A5,c5,rfl,BS (by rw[e5];exact xW) (by have:=xI.size;simp;omega),xS⟩
theorem In:∀(d i:Nat) (l:List Nm) (b o n c:Nat) (w:World),l.length=n->n=2^d->d<=40->n<=c->c<=maxLen->i<n->Rd w w.heap.size (some ⟨b,o,none⟩) (l.flatMap nmc)->
  Calls prog 255 #[.slice (some ⟨b,o,none⟩) n c,.int .i64 (i:Int)] w (CX w 24 8 d ((GF d i l).flatMap nmc))
 |0,i,l,b,o,n,c,w,hl,hn,_,_,_,_,_=>by
  obtain rfl:n=1:=hn;refine(Gv _ c i w).mono ?_;rintro e w' ⟨rfl,rfl⟩;exact⟨none,0,rfl,⟨rfl,.inl ⟨rfl,rfl⟩⟩,AC _ _⟩
 |d+1,i,l,b,o,n,c,w,hl,hn,hd,hc,hm,hi,hr=>by
  have h2:n=2*2^d:=by rw[hn,Nat.pow_succ];omega
  have hp:1<=2^d:=Nat.one_le_two_pow;have hrt:∀W,Wx w W->Rd W W.heap.size (some ⟨b,o,none⟩) ((l.take (2^d)).flatMap nmc):=fun W hW=>Sq ((hr.below hW).more hW.size) _
  have hrd:∀W,Wx w W->Rd W W.heap.size (some ⟨b,o+2^d*8,none⟩) ((l.drop (2^d)).flatMap nmc):=fun W hW=>Sr ((hr.below hW).more hW.size) _
  have ht:(l.take (2^d)).length=2^d:=by rw[AZ];omega
  have hdl:(l.drop (2^d)).length=2^d:=by rw[List.length_drop];omega
  have R1:∀W,Wx w W->Calls prog 91 #[.slice (some ⟨b,o+2^d*8,none⟩) (2^d) (c-2^d)] W (BW W (GE d (l.drop (2^d)))):=fun W hW=>FJ d _ _ _ _ W hdl rfl (by omega) (by omega) (by omega) (hrd W hW)
  have R2:∀W,Wx w W->Calls prog 91 #[.slice (some ⟨b,o,none⟩) (2^d) (2^d)] W (BW W (GE d (l.take (2^d)))):=fun W hW=>FJ d _ _ _ _ W ht rfl (by omega) (by omega) (by omega) (hrt W hW)
  rw[GF];split
  ·rename_i h
   cases d with
   |zero=>
    exact Qo 0 i n 1 c b o _ _ w (Dn 0 i _) rfl rfl hn (by omega) (by omega) hc (fun W hW=>Gv _ _ i W) R1
   |succ d=>
    exact Ss (d+1) i n (2^(d+1)) c b o _ _ w (Dn _ i _) rfl hn (by omega) (by omega) hc (fun W hW=>In (d+1) i _ b o _ _ W ht rfl (by omega) (by omega) (by omega) (by omega) (hrt W hW)) R1
  ·rename_i h
   have hs:((i-2^d:Nat):Int)=(i:Int)-((2^d:Nat):Int):=by omega
   cases d with
   |zero=>
    refine Qp 0 i n 1 c b o _ _ w (Dn 0 _ _) rfl rfl hn (by omega) (by omega) hc (fun W hW=>?_) R2;have h1:=Gv (some ⟨b,o+1*8,none⟩) (c-1) (i-2^0) W;rw[hs]at h1;exact h1
   |succ d=>
    refine Su (d+1) i n (2^(d+1)) c b o _ _ w (Dn _ _ _) rfl hn (by omega) (by omega) hc (fun W hW=>?_) R2;have h1:=In (d+1) (i-2^(d+1)) _ b (o+2^(d+1)*8) _ (c-2^(d+1)) W hdl rfl (by omega) (by omega) (by omega) (by omega) (hrd W hW);rw[hs]at h1;exact h1
def M9(w:World)(d:Nat)(p:List Nm)(e:Ending)(w':World):Prop:=
 ∃A c,e= .returned (.tuple #[.slice A d c,.bool true])/\w'.ownsRow w.heap.size 24 8 (.slice A d c) d (p.flatMap nmc)/\Wx w w'
theorem Sv(i:Nat)(l:List Nm)(b o c:Nat)(w:World)(hl:l.length=32)(hc:32<=c)(hm:c<=maxLen)(hi:i<32)(hr:Rd w w.heap.size (some ⟨b,o,none⟩) (l.flatMap nmc)):Calls prog 219 #[.slice (some ⟨b,o,none⟩) 32 c,.int .i64 (i:Int)] w (M9 w 5 (GF 5 i l)):=by
 have HD:=AA (fun W=>Tv i W hi);have HC:=AA (In 5 i l b o 32 c w hl rfl (by omega) hc hm hi hr);obtain⟨p,hp⟩:=Wr (GF 5 i l);rw[<-hp]at HC ⊢;clear hp hr;go_enter func219,ntmps219;go_wp2_with (first
  |(go_at_call 254;refine(HD.out _).mono ?_;rintro en w' ⟨rfl,rfl⟩)
  |(go_at_call 255;refine HC.out.mono ?_;rintro en w2 ⟨A2,c2,rfl,xG,hb2⟩))
 go_ret2;exact⟨A2,c2,rfl,xG,hb2⟩
abbrev FK(g:Nat):Value:=.slice (some ⟨g,0,none⟩) 32 32
def GZ(s:Nm)(w:World)(tl:List ((Int×Int)×Value)):Prop:=
 ∀k v,BR k tl=some v->∃level number g:Nat,k=((level:Int),(number:Int))/\v=FK g/\Bb w g 32 (Ek s level number)
def Bi(s:Nm)(h m:Nat)(w:World):Prop:=Blk w h 152 (CH s m)/\h≠m/\∃tl,C2 DM w m tl/\GZ s w tl
theorem GZ.below{s:Nm}{w w':World}{tl:List ((Int×Int)×Value)}(h:GZ s w tl)(hb:Wx w w'):GZ s w' tl:=fun k v hk=>by
 obtain⟨a,b,g,h1,h2,h3⟩:=h k v hk;exact⟨a,b,g,h1,h2,h3.below hb h3.lt⟩
theorem Bi.below{s:Nm}{h m:Nat}{w w':World}(hk:Bi s h m w)(hb:Wx w w'):Bi s h m w':=by
 obtain⟨h1,h2,tl,h3,h4⟩:=hk;exact⟨h1.below hb h1.lt,h2,tl,h3.below hb h3.lt,h4.below hb⟩
theorem Bi.drew{s:Nm}{h m:Nat}{w:World}(hk:Bi s h m w):Bi s h m w.drew:=hk
theorem Cw{w:World}{g:Nat}{t t':TypeId}{cs cs':Array Value}(h:Blk w g t cs)(h':Blk w g t' cs'):t=t':=by
 unfold Blk at h h';rw[h]at h';injection h' with h'
 injection h' with _ ht
theorem Bi.far{s:Nm}{h m k t:Nat}{cs:Array Value}{w w':World}(hk:Bi s h m w)(hB:Blk w k t cs)(ht:t≠24)(ht2:t≠152)(hg:w.grownBy w' (some k)):Bi s h m w':=by
 obtain⟨h1,h2,tl,h3,h4⟩:=hk;have hm:m≠k:=by
  rintro rfl;obtain⟨es,c,h5,_⟩:=h3;unfold Blk at hB;rw[hB]at h5;cases h5
 refine⟨h1.kept hg (fun e=>?_),h2,tl,h3.kept hg (by simpa using hm),fun a b hab=>?_⟩
 ·injection e with e
  subst e;exact ht2 (Cw hB h1)
 ·obtain⟨l,n,g,e1,e2,e3⟩:=h4 a b hab;refine⟨l,n,g,e1,e2,e3.kept hg (fun e=>?_)⟩;injection e with e
  subst e;obtain⟨cur,hC,_⟩:=e3;exact ht (Cw hB hC)
theorem Bi.own{s:Nm}{h m base n:Nat}{v:Value}{xs:List Value}{w w':World}(hk:Bi s h m w)(ho:w.ownsRow base 5 1 v n xs)(hg:w.grownBy w' v.ownBlock):Bi s h m w':=by
 rcases ho.2 with⟨rfl,_⟩|⟨g,cap,cur,rfl,_,hh,_⟩
 ·obtain⟨h1,h2,tl,h3,h4⟩:=hk;have hg':w.grownBy w' none:=hg;refine⟨h1.kept hg' (by simp),h2,tl,h3.kept hg' (by simp),fun a b hab=>?_⟩;obtain⟨l,n,g,e1,e2,e3⟩:=h4 a b hab;exact⟨l,n,g,e1,e2,e3.kept hg' (by simp)⟩
 ·exact hk.far (k:=g) (t:=5) (cs:=cur) hh (by decide) (by decide) hg
theorem NA{P:Program}{kt:TypeId}{κ:Type}[DecidableEq κ]{enc:κ->Value}{ops:Array Oper}{rest:List Oper}{o:Oper}{a:Act}{w:World}{Q:Exit->Act->World->Prop}(hg:o.guard=none)(t e:TypeId)(mo ko vo:Operand)(ho:o.op= .mapUpdate t mo ko vo)(m:Nat)(k:κ)(v:Value)(l:List (κ×Value))(hm:a.eval mo= .map (some m))(hk:a.eval ko=enc k)(hv:a.eval vo=v)(h:C2 enc w m l)(K':Fd P kt enc)(ht:P.underlying t=some (.map kt e))(hK:∀w',C2 enc w' m (CJ k v l)->w.grownBy w' (some m)->w'.heap.size=w.heap.size->wpList P ops Q rest (a.put o.dst undef) w'):wpList P ops Q (o::rest) a w:=by
 refine wpList_plain hg fun K hK2=>?_
 obtain⟨w',h1,h2,h3,h4⟩:=h.store K' ht k v (e:=e);unfold Oper.wp execOp;simp only[ho,hm,hk,hv,Sem.run_bind,h1,Result.andThen_ok,Sem.run_pure];exact hK2 _ _ (hK w' h2 h3 h4)
theorem KX(s r:Nm)(h m level number j:Nat)(w:World)(hB:Blk w h 152 (CH s m))(hl:level<=2)(hn:number<32)(hj:j<32)(hr:M8 s level number j=r):Calls prog 140 #[.pointer (some ⟨h,0,none⟩),.int .i64 (level:Int),.int .i64 (number:Int),.int .i64 (j:Int)] w (BW w r):=by
 obtain⟨i0,hi,hz0,hz1,hz2⟩:=info_parts Bz;have hr2:D3 (48::(s.bytes++[UInt8.ofNat level,UInt8.ofNat (number/256),UInt8.ofNat number,UInt8.ofNat j]))=r:=hr;have Hr:=AA hr2;clear hr hr2;have hb1:=J2 level (by omega);have hb4:=J2 j (by omega);have e2:Be number 1=UInt8.ofNat (number/256):=by simp[Be]
 have e3:Be number 0=UInt8.ofNat number:=by simp[Be]
 rw[<-e2,<-e3]at Hr;generalize UInt8.ofNat level=b1 at*;generalize UInt8.ofNat j=b4 at*;have HB1:=AA hb1;clear hb1;have HB4:=AA hb4;clear hb4;clear e2 e3;have hWk:Blk (w.alloc (Obj.cells BG 24)) h 152 (CH s m):=hB.alloc _;have hR:Blk (w.alloc (Obj.cells BG 24)) w.heap.size 24 BG:=Blk.new w _ _;have hb:Wx w (w.alloc (Obj.cells BG 24)):=(AC _ _).alloc (AB _) _;have hlt:=hB.lt;clear hB;go_enter func140,ntmps140;go_upto_region 1 with fail
 generalize (w.alloc (Obj.cells BG 24))=wr at*;have hDC:=hWk.lt;go_upto_region 2 with(at_builtin;refine wpList_append_grows _ rfl (.tmp 13) (.tmp 16) _ rfl 5 i0 (.int .u8 0) 1 1 underlying60 hi hz0 hz1 hz2 rfl (by decide) (some ⟨h,0,none⟩) 8 8 (s.bytes.map B) rfl ?r0 rfl ?r1 ⟨wr.heap.size,0,none⟩ 1 1 [B b1] rfl rfl ?r2 ?r3 ?r4 ?r5 ?r6 ?_)
 case r0=>intro h;cases h
 case r1=>
  intro b hbe j u hu;injection hbe with hbe;subst hbe
  rw[Addr.add_mid,Nat.zero_add,(hWk.alloc _).cell];have hj8:j<8:=by
   have:=(AF.1 hu).1;simpa[Nm.bytes]using this
  rw[<-hu];rcases j with _|_|_|_|_|_|_|_|j <;> first|rfl|omega
 case r2=>
  intro j u hu;rw[Addr.add_mid,Nat.zero_add,(Blk.new wr _ _).cell,<-hu,HB1.out];simp
 case r3=>intro u hu;simp at hu;rcases hu with rfl;rfl
 case r4=>omega
 case r5=>unfold maxLen;omega
 case r6=>omega
 intro v2 w2 xG hg2;have hR2:=(hR.alloc _).kept hg2 (by simp);have hb2:=Di (hb.alloc hb.size _) hg2;have e:s.bytes.map B++[B b1]=(s.bytes++[b1]).map B:=by simp
 rw[e]at xG;obtain⟨A2,c2,rfl⟩:=BD xG;have HC2:Hid (Calls prog 80 #[.slice A2 (8+1) c2,.int .u64 (number:Int),.int .i64 2] w2 (CX w2 5 1 11 ((s.bytes++[b1]++[Be number 1,Be number 0]).map B))):=by
  have h:=Jl A2 9 c2 number ((s.bytes++[b1]).map B) w2 (by simp[Nm.bytes]) (Rd.of_own xG) (fun u hu=>B7 hu) (by omega);rw[Ad (l₂:=[Be number 1,Be number 0])];exact h
 clear e xG hg2 hWk hR hb;try go_frame
 go_upto_region 3 with(go_at_call 80;refine HC2.out.mono ?_;rintro en w3 ⟨A3,c3,rfl,xC,hb3⟩;have hR3:=hR2.below hb3 hR2.lt;have xT:=hb2.trans (hb3.mono hb2.size);have hsz:=hb2.size;clear HC2)
 clear hR2 hb2;try go_frame
 have HT:Hid (∀(A4:Option Addr) (c4:Nat) (w4:World),w4.ownsRow w.heap.size 5 1 (.slice A4 (11+1) c4) (11+1) ((s.bytes++[b1]++[Be number 1,Be number 0]).map B++[B b4])->Calls prog 50 #[.int .u8 48,.slice A4 (11+1) c4] w4 (BW w4 r)):=fun A4 c4 w4 ho=>by
  have e:(s.bytes++[b1]++[Be number 1,Be number 0]).map B++[B b4]=(s.bytes++[b1,Be number 1,Be number 0,b4]).map B:=by simp
  rw[e]at ho;exact CB 48 A4 c4 (s.bytes++[b1,Be number 1,Be number 0,b4]) r w4 (Rd.of_own ho) (by simp[Nm.bytes]) Hr.out
 go_wp2_with (first
  |(at_builtin;refine Ar rfl (.tmp 22) (.tmp 25) _ rfl w.heap.size 5 (.int .u8 0) 1 1 underlying60 Bz rfl (by decide) _ 11 _ rfl (BS (xC.alloc _) hsz) (w3.heap.size+1) _ 1 1 [B b4] rfl rfl (by have h:=Rd.one w3 (B b4) 5;rw[HB4.out]at h ⊢;exact h) (fun u hu=>Hj hu rfl) (by omega) (by unfold maxLen;omega) (by have:=xT.size;simp;omega) ?_;intro v4 w4 xX hg4 hDb;have hR4:=(hR3.alloc _).kept hg4 (CO (BS xC hsz) hR3 (by decide));have xI:=BO (xT.alloc xT.size _) (BS (xC.alloc _) hsz) hg4;obtain⟨A4,c4,hv4⟩:=BD xX;subst hv4)
  |(go_at_call 50;refine(HT.out A4 c4 w4 xX).mono ?_;rintro en w5 ⟨rfl,hb5⟩;have hR5:=hR4.below hb5 hR4.lt;have xS:=xI.trans (hb5.mono xI.size))
  |(refine AJ rfl 24 (.tmp 8) (.tmp 27) rfl w.heap.size _ rfl rfl 24 _ hR5 rfl Ap (fun u hu=>GG r hu) ?_))
 intro w6 hR6 hg6 hs6;have xh:Wx w w6:=xS.grown hg6 xS.size (by rintro j ⟨⟩;omega);go_wp2;exact bodyPost_ret (results_cell_row (g:=w.heap.size) rfl _ _ _ _ _ _ rfl hR6 underlying24 rfl Ap) rfl ⟨rfl,xh⟩
end
section
open Go.RowKit Go.Shelf
attribute [local go_sem ↓] Go.wp_at_zero Go.wp_at_succ Aq Au Av Aw Dl
attribute [local go_sem] BE BL BM BN FE AR AX AU
abbrev Cp(M q s f:Int)(p:Nm)(A:Option Addr)(n c mo:Nat):Array Value:=#[.int .i64 M,I q,I s,I f,B p.b0,B p.b1,B p.b2,B p.b3,B p.b4,B p.b5,B p.b6,B p.b7,.slice A n c,.map (some mo)]
structure FL (w:World)(b:Nat)(M q s f:Int)(p:Nm)(A:Option Addr)(c mo:Nat)(O:List Vt)(ow:Int->Int->Bool):Prop where
 blk:Blk w b 229 (Cp M q s f p A O.length c mo)
 rd:Rd w w.heap.size A (O.flatMap vtc)
 own:∃kl,Bj DM w mo kl/\∀k r,∃z:Nat,(BR (k,r) kl).getD (.int .i64 0)= .int .i64 (z:Int)/\decide (0<z)=ow k r
section
variable {w w':World}{b:Nat}{M q s f:Int}{p:Nm}{A:Option Addr}{c mo:Nat}{O:List Vt}{ow:Int->Int->Bool}
theorem FL.below(h:FL w b M q s f p A c mo O ow)(hb:Wx w w'):FL w' b M q s f p A c mo O ow:=
 ⟨h.blk.below hb h.blk.lt,(h.rd.below hb).more hb.size,by obtain⟨kl,h1,h2⟩:=h.own;exact⟨kl,h1.below hb h1.is.lt,h2⟩⟩
theorem FL.row_parent(h:FL w b M q s f p A c mo O ow):AK w b 4 8=some p.cells:=
 Blk.part h.blk 4 p.cells (fun j u hu=>by
  have hj:j<8:=(Aa.1 hu).1;rcases(by omega:j=0∨j=1∨j=2∨j=3∨j=4∨j=5∨j=6∨j=7)with rfl|rfl|rfl|rfl|rfl|rfl|rfl|rfl <;> exact hu)
theorem Do(h:FL w b M q s f p A c mo O ow)(k r:Int):Calls prog 204 #[.pointer (some ⟨b,0,none⟩),.int .i64 k,.int .i64 r] w fun e w'=>e= .returned (.bool (ow k r))/\w'=w:=by
 obtain⟨kl,h1,h2⟩:=h.own;obtain⟨z,hz,hd⟩:=h2 k r;have y0:w.cell? ⟨b,13,none⟩=some (.map (some mo)):=h.blk.cell 13;have hr:=h1.is.look Pp underlying227 (.int .i64 0) (show(zeroValue 3).run prog w= .ok (.int .i64 0) w by kernel_rfl) (k,r) false;simp only[Bool.false_eq_true,if_false]at hr;rw[hz]at hr;obtain⟨d,hd'⟩:=Wr (ow k r);rw[<-hd']at hd ⊢;clear h h1 h2 hz hd';go_enter func204,ntmps204;go_wp2;go_ret;exact⟨rfl,rfl⟩
theorem NB{o:Oper}{a:Act}(v:Vt)(x0 x1 x2 x3 x4 x5 x6 x7:Operand)(ho:o.op= .build 46 #[(0,x0),(1,x1),(2,x2),(3,x3),(4,x4),(5,x5),(6,x6),(7,x7)])(h0:a.eval x0=I v.kind)(h1:a.eval x1=I v.slot)(h2:a.eval x2=I v.round)(h3:a.eval x3=I v.choice)(h4:a.eval x4=I v.signer)(h5:a.eval x5=I v.support)(h6:a.eval x6= .agg v.parent.cells)(h7:a.eval x7= .agg v.value.cells)(w:World):(execOp a.eval o).run prog w= .ok (.value v.val) w:=by
 unfold execOp;rw[ho];simp only[List.map_toArray,List.map_cons,List.map_nil,h0,h1,h2,h3,h4,h5,h6,h7];go_simp
theorem Ao:(prog.info? 46).map (·.size)=some 22:=by kernel_rfl
theorem Ga(h:FL w b M q s f p A c mo O ow)(k r:Int)(x:Vl)(sup:Int):Calls prog 206 #[.pointer (some ⟨b,0,none⟩),.int .i64 k,.int .i64 r,x.val,.int .i64 sup] w fun e w'=>e= .returned (.tuple #[(Vt.mk k s r x.choice f sup p x.name).val,.bool true])/\Wx w w':=by
 obtain⟨w1,hw1⟩:=Wr (w.alloc (.cells x.cells 258));obtain⟨w2,hw2⟩:=Wr (w1.alloc (.cells Ai 46));have hb1:Wx w w1:=by rw[hw1];exact(AC _ _).alloc (AB _) _
 have hb2:Wx w w2:=by rw[hw2];exact hb1.alloc hb1.size _
 have hx1:Blk w1 w.heap.size 258 x.cells:=by rw[hw1];exact Blk.new w _ _
 obtain⟨z,hz⟩:=Wr w.heap.size;have hs1:w1.heap.size=w.heap.size+1:=by rw[hw1];simp
 obtain⟨g,hg⟩:=Wr (w.heap.size+1);have hx2:Blk w2 z 258 x.cells:=by rw[hw2,hz];exact hx1.alloc _
 have hr2:Blk w2 g 46 Ai:=by rw[hw2,hg,<-hs1];exact Blk.new w1 _ _
 have hV2:=h.below hb2;have HS:Hid (∀V,Wx w2 V->V.cell? ⟨b,2,none⟩=some (I s)/\V.cell? ⟨b,3,none⟩=some (I f)/\AK V b 4 8=some p.cells/\V.cell? ⟨z,0,none⟩=some (I x.choice)/\AK V z 1 8=some x.name.cells):=fun V hV=>
  ⟨(hV2.below hV).blk.cell 2,(hV2.below hV).blk.cell 3,(hV2.below hV).row_parent,(hx2.below hV hx2.lt).cell 0,x.row_name (hx2.below hV hx2.lt)⟩
 have HS5:Hid (∀V,w2.grownBy V (some g)->V.cell? ⟨b,2,none⟩=some (I s)/\V.cell? ⟨b,3,none⟩=some (I f)/\AK V b 4 8=some p.cells/\V.cell? ⟨z,0,none⟩=some (I x.choice)/\AK V z 1 8=some x.name.cells):=fun V hV=>by
  have hbg:b≠g:=by intro e;rw[e]at hV2;exact absurd (Cw hV2.blk hr2) (by decide)
  have hzg:z≠g:=by intro e;rw[e]at hx2;exact absurd (Cw hx2 hr2) (by decide)
  have hb5:=hV2.blk.kept hV (by intro e;injection e with e;exact hbg e);have hx5:=hx2.kept hV (by intro e;injection e with e;exact hzg e);exact⟨hb5.cell 2,hb5.cell 3,Blk.part hb5 4 p.cells (fun j u hu=>by
   have hj:j<8:=(Aa.1 hu).1;rcases(by omega:j=0∨j=1∨j=2∨j=3∨j=4∨j=5∨j=6∨j=7)with rfl|rfl|rfl|rfl|rfl|rfl|rfl|rfl <;> exact hu),hx5.cell 0,x.row_name hx5⟩
 obtain⟨v,hv⟩:∃v:Vt,v=Vt.mk k s r x.choice f sup p x.name:=⟨_,rfl⟩;rw[<-hv];have HV:=AA hv;have HR:=AA hr2;have HB:=AA hb2;have HW1:=AA hw1;have HW2:=AA hw2;have HZ:=AA hz;have HG:=AA hg;have HGW:Hid (w.heap.size<=g):=by unfold Hid;omega
 clear h hw1 hw2 hx1 hz hg hx2 hr2 hV2 hb1 hb2 hv hs1;go_enter func206,ntmps206;go_upto_region 1 with fail
 simp only[<-HW1.out,<-HW2.out,<-HG.out];simp only[<-HZ.out];refine rgD (fun V=>V.cell? ⟨b,2,none⟩=some (I s)/\V.cell? ⟨b,3,none⟩=some (I f)/\AK V b 4 8=some p.cells/\V.cell? ⟨z,0,none⟩=some (I x.choice)/\AK V z 1 8=some x.name.cells) (HS.out _ ((AC _ _).drew)) fun _=>?_
 iterate 19 (refine tkA ?_;go_frame)
 refine tkV 31 19 v.val (fun wq _=>NB v (.tmp 12) (.tmp 16) (.tmp 17) (.tmp 19) (.tmp 23) (.tmp 24) (.tmp 28) (.tmp 30) rfl (by rw[HV.out];rfl) (by rw[HV.out];rfl) (by rw[HV.out];rfl) (by rw[HV.out];rfl) (by rw[HV.out];rfl) (by rw[HV.out];rfl) (by rw[HV.out];rfl) (by rw[HV.out];rfl) wq) ?_;go_frame;refine rd1 20 fun K hK=>?_
 rw[if_pos (by rfl)];refine BU 46 (.tmp 10) (.tmp 31) (by rfl) g v.cells (by rfl) (by rfl) 46 Ai (HR.out.drew) (by rfl) Ao (fun u hu=>BH _ hu) (by rfl) ?_;intro w5 hR5 hg5 yi;refine hK.out _ _ (HS5.out _ (BZ (Al w2 g)|>.trans hg5)) (fun _=>?_);clear hK K;try go_frame
 refine tkD 11 21 ?_;go_frame;refine dnD ?_;go_wp2_with fail
 refine bodyPost_ret (Ac (g:=g) (cs:=v.cells) rfl _ _ _ _ _ rfl hR5 underlying46 rfl Ao) rfl ⟨rfl,?_⟩;exact HB.out.drew.grown hg5 HB.out.size (Wt HGW.out)
theorem KY(h:FL w b M q s f p A c mo O ow)(X:Int):Calls prog 214 #[.pointer (some ⟨b,0,none⟩),.int .i64 X] w fun e w'=>e= .returned (.bool (decide (q<=((Ae (xOf X) 10:Nat):Int))))/\Wx w w':=by
 have HSz:Hid (∀W,Calls prog 15 #[.int .i64 X] W fun e w'=>e= .returned (.int .i64 ((Ae (xOf X) 10:Nat):Int))/\w'=W):=fun W=>Cd X W
 have HS:Hid (∀V,Wx w V->V.cell? ⟨b,1,none⟩=some (I q)):=fun V hV=>(h.below hV).blk.cell 1
 obtain⟨n,hn⟩:=Wr (Ae (xOf X) 10);rw[<-hn]at HSz ⊢;obtain⟨d,hd⟩:=Wr (decide (q<=(n:Int)));rw[<-hd];have hd':=hd.symm;clear h hn hd;have hbx:Wx w w:=AC _ _;go_enter func214,ntmps214;go_upto_region 1 with fail
 refine rgD (fun V=>V.cell? ⟨b,1,none⟩=some (I q)) (HS.out _ hbx.drew) fun _=>?_
 refine tkD 5 0 ?_;go_frame;refine tkD 7 2 ?_;go_frame;refine tkD 8 3 ?_;go_frame;refine tkD 9 4 ?_;go_frame;refine tkD 10 5 ?_;go_frame;refine rd1 1 fun K hK=>?_
 go_simp;refine(HSz.out _).mono ?_;rintro en w2 ⟨rfl,hw2⟩;replace hw2:=hw2.symm;subst hw2;go_wp2_with fail
 refine hK.out _ _ (HS.out _ hbx.drew) (fun _=>?_);clear hK K;try go_frame
 iterate 2 (refine tkA ?_;go_frame)
 refine dnD ?_;go_wp2;go_ret;exact⟨rfl,hbx.drew⟩
end
end
section
open Go.RowKit
section
variable {α:Type}{c:Bc α}{t:TypeId}{w0:World}{g n f F:Nat}{sb lb:Array Value}{lt:α->α->Bool}{l0:List α}
theorem L8(H:Srt c t w0 g n f F sb lb lt l0)(a b:Nat)(w:World)(hw:Az c t g l0 w0 w)(hab:a+1<b)(hb:b<=n):Calls prog 229 #[.agg #[.func (.func F) #[] lb,.func (.func f) #[] sb],.int .i64 (a:Int),.int .i64 (b:Int)] w fun e w'=>e= .returned (.tuple #[])/\Az c t g l0 w w':=by
 obtain⟨L,rfl⟩:∃L,b=a+L:=⟨b-a,by omega⟩;have hL:(((a+L:Nat):Int)-(a:Int))=(L:Int):=by omega
 push_cast at hL
 have HH:=AA H;have hgw:g<w.heap.size:=hw.glt;obtain⟨B,hB⟩:=Wr (w.alloc (.cells #[.func (.func F) #[] lb,.func (.func f) #[] sb] 190));have h0B:Az c t g l0 w0 B:=by rw[hB];exact hw.alloc _
 have hBB:Az c t g l0 B B:=h0B.self;have hBx:Blk B w.heap.size 190 #[.func (.func F) #[] lb,.func (.func f) #[] sb]:=by rw[hB];exact Blk.new _ _ _
 have xt:Hid (∀V,Az c t g l0 B V->Az c t g l0 w V):=fun V h=>by rw[hB]at h;exact h.off
 have HB0:=AA h0B;have HC:Hid (∀V,Az c t g l0 B V->V.cell? ⟨w.heap.size,0,none⟩=some (.func (.func F) #[] lb)/\V.cell? ⟨w.heap.size,1,none⟩=some (.func (.func f) #[] sb)):=fun V h=>⟨(h.box hBx (by omega)).cell 0,(h.box hBx (by omega)).cell 1⟩
 have eg:=H.eg;have hn6:=H.small;have HW:=AA hB;have HBB:=AA hBB;clear hw hB h0B hBB hBx H;go_enter func229,ntmps229;go_upto_region 1 with fail
 simp only[<-HW.out]
 push_cast
 go_upto_region 5 with fail
 go_loopw [9] (fun iv wr=>∃z:Int,iv= .int .i64 z/\-1<=z/\z<n/\Hid (Az c t g l0 B wr)) (fun iv _=>(intOf iv+1).toNat)
 case atStart=>exact⟨_,rfl,by omega,by omega,HBB⟩
 case round=>
  obtain⟨z,rfl,hz,hzn,HP⟩:=hrel;obtain⟨c0,c1⟩:=HC.out _ HP.out;by_cases h1:0<=z
  ·have d1:decide (0<=z)=true:=by simp;omega
   obtain⟨m,rfl⟩:∃m:Nat,z=(m:Int):=⟨z.toNat,by omega⟩;go_wp2_with (go_at_call 267;refine(IG HH.out m L a _ (HB0.out.trans HP.out) (by omega) (by omega)).mono ?_;rintro en w5 ⟨rfl,hp⟩;have HP5:=AA (HP.out.trans hp);obtain⟨c0,c1⟩:=HC.out _ (HP.out.trans hp);clear hp)
   go_roundw
   case rel=>exact⟨_,rfl,by omega,by omega,HP5⟩
   case measure=>simp[intOf]
  ·have d1:decide (0<=z)=false:=by simp;omega
   go_wp2
   go_loopw [10] (fun iv wr=>∃z:Int,iv= .int .i64 z/\-1<=z/\z<(L:Int)/\Hid (Az c t g l0 B wr)) (fun iv _=>(intOf iv+1).toNat)
   case atStart=>exact⟨_,rfl,by omega,by omega,HP⟩
   case round=>
    obtain⟨y,rfl,hy,hyn,HP⟩:=hrel;obtain⟨c0,c1⟩:=HC.out _ HP.out;by_cases h2:0<=y
    ·have d2:decide (0<=y)=true:=by simp;omega
     obtain⟨m,rfl⟩:∃m:Nat,y=(m:Int):=⟨y.toNat,by omega⟩;obtain⟨w6,xK,hp⟩:=HH.out.swap HB0.out HP.out (a) (a+m) (by omega) (by omega) (by omega);try push_cast at xK
     have HP6:=AA hp;obtain⟨c0',c1'⟩:=HC.out _ hp;clear hp;go_wp2_with (go_at_call 267;refine(IG HH.out 0 m a _ (HB0.out.trans HP6.out) (by omega) (by omega)).mono ?_;rintro en w7 ⟨rfl,hp⟩;have HP7:=AA (HP6.out.trans hp);obtain⟨c0,c1⟩:=HC.out _ (HP6.out.trans hp);clear hp)
     go_roundw
     case rel=>exact⟨_,rfl,by omega,by omega,HP7⟩
     case measure=>simp[intOf]
    ·have d2:decide (0<=y)=false:=by simp;omega
     go_wp2
     first
      |go_end0
      |refine bodyPost_ret (results_none rfl _ _ _) rfl ?_
     exact⟨rfl,xt.out _ HP.out⟩
theorem FM(H:Srt c t w0 g n f F sb lb lt l0)(a b:Nat)(w:World)(hw:Az c t g l0 w0 w)(hab:a<b)(hb:b<=n):Calls prog 232 #[.agg #[.func (.func F) #[] lb,.func (.func f) #[] sb],.int .i64 (a:Int),.int .i64 (b:Int)] w fun e w'=>e= .returned (.tuple #[])/\Az c t g l0 w w':=by
 have HH:=AA H;have hgw:g<w.heap.size:=hw.glt;obtain⟨B,hB⟩:=Wr (w.alloc (.cells #[.func (.func F) #[] lb,.func (.func f) #[] sb] 190));have h0B:Az c t g l0 w0 B:=by rw[hB];exact hw.alloc _
 have hBB:Az c t g l0 B B:=h0B.self;have hBx:Blk B w.heap.size 190 #[.func (.func F) #[] lb,.func (.func f) #[] sb]:=by rw[hB];exact Blk.new _ _ _
 have xt:Hid (∀V,Az c t g l0 B V->Az c t g l0 w V):=fun V h=>by rw[hB]at h;exact h.off
 have HB0:=AA h0B;have HC:Hid (∀V,Az c t g l0 B V->V.cell? ⟨w.heap.size,0,none⟩=some (.func (.func F) #[] lb)/\V.cell? ⟨w.heap.size,1,none⟩=some (.func (.func f) #[] sb)):=fun V h=>⟨(h.box hBx (by omega)).cell 0,(h.box hBx (by omega)).cell 1⟩
 have eg:=H.eg;have hn6:=H.small;have HW:=AA hB;have HBB:=AA hBB;clear hw hB h0B hBB hBx H;go_enter func232,ntmps232;go_upto_region 1 with fail
 simp only[<-HW.out];go_upto_region 3 with fail
 go_loopw [6,7] (fun iv jv wr=>∃i j:Nat,iv= .int .i64 (i:Int)/\jv= .int .i64 (j:Int)/\i<=n/\j<n/\Hid (Az c t g l0 B wr)) (fun _ jv _=>(intOf jv).toNat)
 case atStart=>exact⟨a,b-1,rfl,by go_num,by omega,by omega,HBB⟩
 case round=>
  obtain⟨i,j,rfl,rfl,hi,hj,HP⟩:=hrel;obtain⟨c0,c1⟩:=HC.out _ HP.out;by_cases h1:i<j
  ·have d1:=Wu (show i<j by omega)
   obtain⟨w5,xK,hp⟩:=HH.out.swap HB0.out HP.out (i) (j) (by omega) (by omega) (by omega);try push_cast at xK
   have HP5:=AA hp;obtain⟨c0',c1'⟩:=HC.out _ hp;clear hp;go_wp2;go_roundw
   case rel=>exact⟨i+1,j-1,by go_num,by go_num,by omega,by omega,HP5⟩
   case measure=>simp[intOf];omega
  ·have d1:=Wv (show j<=i by omega)
   go_wp2
   first
    |go_end0
    |refine bodyPost_ret (results_none rfl _ _ _) rfl ?_
   exact⟨rfl,xt.out _ HP.out⟩
theorem NC(H:Srt c t w0 g n f F sb lb lt l0)(a b:Nat)(w:World)(hw:Az c t g l0 w0 w)(hab:a<=b)(hb:b<=n):Calls prog 179 #[.agg #[.func (.func F) #[] lb,.func (.func f) #[] sb],.int .i64 (a:Int),.int .i64 (b:Int)] w fun e w'=>e= .returned (.tuple #[])/\Az c t g l0 w w':=by
 have HH:=AA H;have hgw:g<w.heap.size:=hw.glt;obtain⟨B,hB⟩:=Wr (w.alloc (.cells #[.func (.func F) #[] lb,.func (.func f) #[] sb] 190));have h0B:Az c t g l0 w0 B:=by rw[hB];exact hw.alloc _
 have hBB:Az c t g l0 B B:=h0B.self;have hBx:Blk B w.heap.size 190 #[.func (.func F) #[] lb,.func (.func f) #[] sb]:=by rw[hB];exact Blk.new _ _ _
 have xt:Hid (∀V,Az c t g l0 B V->Az c t g l0 w V):=fun V h=>by rw[hB]at h;exact h.off
 have HB0:=AA h0B;have HC:Hid (∀V,Az c t g l0 B V->V.cell? ⟨w.heap.size,0,none⟩=some (.func (.func F) #[] lb)/\V.cell? ⟨w.heap.size,1,none⟩=some (.func (.func f) #[] sb)):=fun V h=>⟨(h.box hBx (by omega)).cell 0,(h.box hBx (by omega)).cell 1⟩
 have eg:=H.eg;have hn6:=H.small;have HW:=AA hB;have HBB:=AA hBB;clear hw hB h0B hBB hBx H;go_enter func179,ntmps179;go_upto_region 1 with fail
 simp only[<-HW.out];go_wp2
 go_loopw [6] (fun iv wr=>∃i:Nat,iv= .int .i64 (i:Int)/\i<=n+1/\Hid (Az c t g l0 B wr)) (fun iv _=>n+1-(intOf iv).toNat)
 case atStart=>exact⟨a+1,by go_num,by omega,HBB⟩
 case round=>
  obtain⟨i,rfl,hi,HP⟩:=hrel;by_cases h1:i<b
  ·have d1:=Wu (show i<b by omega)
   go_wp2
   go_loopw [7] (fun jv wr=>∃j:Nat,jv= .int .i64 (j:Int)/\j<=i/\Hid (Az c t g l0 B wr)) (fun jv _=>(intOf jv).toNat)
   case atStart=>exact⟨i,rfl,by omega,HP⟩
   case round=>
    obtain⟨j,rfl,hj,HP⟩:=hrel;obtain⟨c0,c1⟩:=HC.out _ HP.out;by_cases h2:a<j
    ·have d2:=Wu (show a<j by omega)
     go_wp2_with fail
     have hl:=HH.out.less HB0.out HP.out (j) (j-1) (by omega) (by omega);try push_cast at hl
     rw[show((j-1:Nat):Int)=(j:Int)-1 from by omega]at hl;refine hl.mono ?_;clear hl;rintro en w5 ⟨k5,rfl,hp⟩;have HP5:=AA hp;obtain⟨c0,c1⟩:=HC.out _ hp;clear hp;cases k5 with
     |true=>
      obtain⟨w6,xK,hp⟩:=HH.out.swap HB0.out HP5.out (j) (j-1) (by omega) (by omega) (by omega);try push_cast at xK
      rw[show((j-1:Nat):Int)=(j:Int)-1 from by omega]at xK;have HP6:=AA hp;obtain⟨c0',c1'⟩:=HC.out _ hp;clear hp;go_wp2;go_roundw
      case rel=>exact⟨j-1,by go_num,by omega,HP6⟩
      case measure=>simp[intOf];omega
     |false=>
      go_wp2;go_roundw
      case rel=>exact⟨i+1,by go_num,by omega,HP5⟩
      case measure=>simp[intOf];omega
    ·have d2:=Wv (show j<=a by omega)
     go_wp2;go_roundw
     case rel=>exact⟨i+1,by go_num,by omega,HP⟩
     case measure=>simp[intOf];omega
  ·have d1:=Wv (show b<=i by omega)
   go_wp2
   first
    |go_end0
    |refine bodyPost_ret (results_none rfl _ _ _) rfl ?_
   exact⟨rfl,xt.out _ HP.out⟩
end
end
end Go.Proofs.YtadllffeoibelaaGreat
