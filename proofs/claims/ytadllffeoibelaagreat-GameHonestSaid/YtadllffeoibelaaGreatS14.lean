/-
  What these parts of the proof come to, functions walked and plain laws: ClimbP. No condition.
-/
import Derived.Test.YtadllffeoibelaaGreatS13
import Derived.Test.YtadllffeoibelaaGreatS6
namespace Go.Proofs.YtadllffeoibelaaGreat
set_option maxRecDepth 100000
set_option maxHeartbeats 32000000
set_option linter.all false
section
open Go.RowKit
attribute [local go_sem ↓] Go.wp_at_zero Go.wp_at_succ An
attribute [local go_sem] BD AN AW AQ
theorem C9{P:Program}(w:World){o:Oper}{a:Act}{K:Act→World→Prop}{Q:Exit→Act→World→Prop}(d:Option Tmp)(hd:o.dst=d)(s x:Operand)(t:TypeId)(hop:o.op=Op.call {callee:=Callee.builtin Builtin.append,args:=#[s,x],argTypes:=#[t,t]})
  (e:TypeId) (i:TypeInfo) (z:Value) (size bytes:Nat) (h1:P.underlying t=some (.slice e)) (h2:P.info? e=some i) (h3:i.zero=some z) (h4:i.size=size) (h5:i.bytes=bytes) (h6:z.cells.size=size) (h7:0<size)
  (ao:Option Addr) (n cap:Nat) (olds:List Value) (hs:a.eval s= .slice ao n cap) (hnone:ao=none→n=0∧cap=0) (hlo:olds.length=n*size) (holds:∀b,ao=some b→∀j u,olds[j]? =some u→w.cell? (b.add j)=some u)
  (ad:Addr) (m c:Nat) (news:List Value) (hx:a.eval x= .slice (some ad) m c) (hn:news.length=m*size) (hc:∀j u,news[j]? =some u→w.cell? (ad.add j)=some u) (h1c:∀u∈news,u.oneCell'=true)
  (hfull:cap<n+m) (b1:n+m≤maxLen) (b2:(n+m)*bytes≤140737488355328)
  (hK:∀v' w',w'.ownsRow w.heap.size e size v' (n+m) (olds++news)→w.grownBy w' none→K (a.put d v') w'):o.wp P a w K Q:=by
 subst hd;cases ao with
 |some b=>
  obtain⟨v',w',hrun,r1,r2⟩:=run_append_arg_grows (P:=P) w t o.type e i z size bytes h1 h2 h3 h4 h5 h6 h7 b n cap olds hlo (holds b rfl) ad m c news hn hc hfull b1 b2;unfold Oper.wp;simp[execOp,hop,resolve,invoke,builtin,hs,hx,hrun,Result.andThen];exact hK v' w' r1 r2
 |none=>
  obtain⟨rfl,rfl⟩:=hnone rfl;obtain rfl:olds=[]:=AV (by simpa using hlo);obtain⟨v',w',hrun,r1,r2,_⟩:=run_append_own (P:=P) w w.heap.size t o.type e i z size bytes h1 h2 h3 h4 h5 h6 h7 (.slice none 0 0) 0 [] (World.ownsRow_nil w _ e size) ad m c news hn hc h1c b1 b2 (AB _);unfold Oper.wp;simp[execOp,hop,resolve,invoke,builtin,hs,hx,hrun,Result.andThen];exact hK v' w' r1 r2
theorem Fw(A:Option Addr)(c i:Nat)(w:World):Calls Tryz.prog 255 #[.slice A 1 c,.int .i64 (i:Int)] w fun e w'=>e= .returned (.slice none 0 0)∧w'=w:=by
 go_enter Tryz.func255,Tryz.ntmps255;go_wp2;go_ret;exact⟨rfl,rfl⟩
theorem PY(d i n k c b o:Nat)(p:List Nm)(up:Nm)(w:World)(hp:p.length=d)(hk:k=2^d)(hn:n=2^(d+1))(hd:d≤40)(hik:i<k)(hc:n≤c)(h1:∀W,Below w.heap.size w W→Calls Tryz.prog 255 #[.slice (some ⟨b,o,none⟩) k k,.int .i64 (i:Int)] W (CV W 24 8 d (p.flatMap nmc)))(h2:∀W,Below w.heap.size w W→Calls Tryz.prog 91 #[.slice (some ⟨b,o+k*8,none⟩) k (c-k)] W (BT W up)):Calls Tryz.prog 255 #[.slice (some ⟨b,o,none⟩) n c,.int .i64 (i:Int)] w (CV w 24 8 (d+1) ((p++[up]).flatMap nmc)):=by
 obtain⟨i0,hi,hz0,hz1,hz2⟩:=info_parts DQ;have HP:=AA hp;clear hp;have H1:=AA h1;clear h1;have H2:=AA h2;clear h2;have hk1:1≤k:=by rw[hk];exact Nat.one_le_two_pow
 have hkb:k≤1099511627776:=by rw[hk];exact Nat.pow_le_pow_right (j:=40) (by omega) hd
 have h2k:n=2*k:=by rw[hn,hk,Nat.pow_succ];omega
 have hcall:∀W,Calls Tryz.prog 137 #[.int .i64 (n:Int)] W fun en w'=>en= .returned (.int .i64 (k:Int))∧w'=W:=fun W=>by
  rw[hk];exact Dn d n W hn hd
 have HC:=AA hcall;clear hcall;have hne1:((n:Int)==1)=false:=by rw[beq_eq_false_iff_ne];omega
 clear hk hn;subst h2k;have i1:(0:Int)≤(k:Int):=by omega
 have i2:(k:Int)≤(c:Int):=by omega
 have i3:(k:Int)≤((2*k:Nat):Int):=by omega
 have i4:¬c=k:=by omega
 have i5:2*k-k=k:=by omega
 have i6:((2*k:Nat):Int)≤(c:Int):=by omega
 have i7:decide ((i:Int)<(k:Int))=true:=by simp;omega
 obtain⟨n,hn⟩:∃n,n=2*k:=⟨_,rfl⟩;rw[←hn]at hne1 HC i3 i5 i6 ⊢;clear hn;go_enter Tryz.func255,Tryz.ntmps255;go_upto_region 7 with((go_at_call 137;refine(HC.out _).mono ?_;rintro en w' ⟨rfl,rfl⟩))
 have hR:Blk (w.alloc (Obj.cells BG 24)) w.heap.size 24 BG:=Blk.new w _ _;have hbW:Below w.heap.size w (w.alloc (Obj.cells BG 24)):=(AC _ _).alloc (AB _) _;generalize (w.alloc (Obj.cells BG 24))=W at*;refine rgD (fun _=>True) (trivial) fun hHeld=>?_
 refine tkD 17 0 ?_;go_frame;refine tkD 18 1 ?_;go_frame;refine tkD 19 2 ?_;go_frame;refine tkD 20 3 ?_;go_frame;refine tkD 21 4 ?_;go_frame;refine tkD 23 6 ?_;go_frame;refine tkD 24 7 ?_;go_frame;refine tkD 25 8 ?_;go_frame;refine rd1 5 fun K hK=>?_
 go_simp;refine(H1.out _ hbW.drew).mono ?_;rintro en w2 ⟨A2,c2,rfl,hown2,hb2⟩;have hbx2:=hbW.drew.trans (hb2.mono hbW.size);have hR2:=hR.drew.below hb2 hR.drew.lt;go_wp2_with fail
 refine hK.out _ _ (trivial) (fun hHeld=>?_);clear hK K;try go_frame
 refine rd1 9 fun K hK=>?_
 go_simp;refine(H2.out _ hbx2).mono ?_;rintro en w3 ⟨rfl,hb3⟩;have hbx3:=hbx2.trans (hb3.mono hbx2.size);have hR3:=hR2.below hb3 hR2.lt;have hown3:=BA hown2 hb3 (AB _);go_wp2_with fail
 refine hK.out _ _ (trivial) (fun hHeld=>?_);clear hK K;try go_frame
 refine tkD 5 10 ?_;go_frame;refine rd1 11 fun K hK=>?_
 rw[if_pos (by rfl)];refine BQ 24 (.tmp 6) (.tmp 26) (by rfl) w.heap.size up.cells (by rfl) (by rfl) 24 BG hR3 rfl Ap ?st1 (by rfl) ?_
 case st1=>exact fun u hu=>FA up hu
 intro w4 hR4 hg4 hs4;refine hK.out _ _ (trivial) (fun hHeld=>?_);clear hK K;try go_frame
 refine dnD ?_;have hbw4:Below w.heap.size w w4:=hbx3.grown hg4 hbx3.size (by rintro j ⟨⟩;omega);have x4:AK w4 w.heap.size 0 8=some up.cells:=hR4.row 8 rfl;have hneq:hown3.1=hown3.1:=rfl;clear hneq;have hown4:=hown3.kept hg4 (.inr fun e=>by have:=(hown3.lt _ e).1;have:=hbW.size;have:=hR.lt;simp at*;omega);have hnz:A2=none→d=0∧d=0:=fun e=>by
  rcases hown4.2 with⟨hv,h0⟩|⟨g,cap,cur,hv,_⟩
  ·exact⟨h0,h0⟩
  ·injection hv with hA;rw[e]at hA;cases hA
 have HNz:=AA hnz;clear hnz;have hdc:d≤c2:=by
  rcases hown4.2 with⟨hv,h0⟩|⟨g,cap,cur,hv,_,_,h1,h2,_⟩
  ·omega
  ·injection hv with _ _ hc;omega
 have hrd4:=Rd.of_own hown4;have j1:(0:Int)≤(d:Int):=by omega
 have j2:(d:Int)≤(c2:Int):=by omega
 have HW4:Hid (w4.ownsRow W.drew.heap.size 24 8 (.slice A2 d c2) d (p.flatMap nmc)):=hown4;clear hR hR2 hR3 hbx2 hbx3 hg4 hs4 hbW;try go_frame
 go_upto_region 9 with fail
 have HLT:Hid (w.heap.size<w4.heap.size):=hR4.lt;clear hR4;refine rgD (fun w'=>AK w' w.heap.size 0 8=some up.cells) (x4) fun hHeld=>?_
 refine tkD 39 0 ?_;go_frame;refine tkD 40 1 ?_;go_frame;refine tkD 41 2 ?_;go_frame;refine tkD 42 3 ?_;go_frame;refine tkD 43 4 ?_;go_frame;refine tkD 44 5 ?_;go_frame;refine tkD 45 6 ?_;go_frame;refine rd1 7 fun K hK=>?_
 go_simp;refine hK.out _ _ (Ay x4 ((AC _ _).drew.alloc (by simp) _) HLT.out) (fun hHeld=>?_);clear hK K;try go_frame
 refine rd1 8 fun K hK=>?_
 rw[if_pos (by rfl)];refine C9 _ (some 47) rfl (.tmp 44) (.tmp 46) _ (by rfl) 24 i0 (Nm.val ⟨0,0,0,0,0,0,0,0⟩) 8 8 Tryz.underlying75 hi hz0 hz1 hz2 rfl (by decide) A2 d d (p.flatMap nmc) (by rfl) ?an ?al ?ah ⟨w4.heap.size,0,none⟩ 1 1 (nmc up) (by rfl) rfl ?ac ?a1 ?af ?ab ?a2 ?_
 case an=>exact HNz.out
 case al=>rw[AX nmc 8 p (Cb p),HP.out]
 case ah=>
  intro q hq j u hu;rcases hrd4 with h|⟨b5,o5,e5,_,hc5⟩
  ·rw[h]at hu;simp at hu
  ·rw[hq]at e5;injection e5 with e5;subst e5
   rw[Addr.add_mid];have:=hc5 j u hu;have hlt5:=block_lt_of_cell this;have e6:=Below.heap_alloc w4 (.cells up.cells 24) b5 hlt5;show(w4.alloc (.cells up.cells 24)).cell? _=_;rw[World.cell?_of_block (a:=⟨b5,o5+j,none⟩) e6];exact this
 case ac=>
  intro j u hu;rw[Addr.add_mid,Nat.zero_add,←hu];simp
 case a1=>exact fun u hu=>Ed (l:=[up]) (by simpa using hu)
 case af=>omega
 case ab=>unfold maxLen;omega
 case a2=>omega
 intro v5 w5 hown5 hg5;have HB5:Hid (Below w4.heap.size w4 w5):=((AC _ _).drew.alloc (by simp) _).grown hg5 (by simp) (by rintro j ⟨⟩);refine hK.out _ _ (Ay x4 HB5.out HLT.out) (fun hHeld=>?_);clear hK K;try go_frame
 refine tkD 4 9 ?_;go_frame;refine dnD ?_;have hbw5:=hbw4.trans (HB5.out.mono hbw4.size);obtain⟨A5,c5,rfl⟩:=Ar hown5;go_wp2;go_ret;have e5:(p++[up]).flatMap nmc=p.flatMap nmc++nmc up:=by simp
 exact⟨A5,c5,rfl,BF (by rw[e5];exact hown5) (by have:=hbw4.size;simp;omega),hbw5⟩
theorem ON(d i n k c b o:Nat)(p:List Nm)(up:Nm)(w:World)(hp:p.length=d)(h0:d=0)(hk:k=2^d)(hn:n=2^(d+1))(hd:d≤40)(hik:i<k)(hc:n≤c)(h1:∀W,Below w.heap.size w W→Calls Tryz.prog 255 #[.slice (some ⟨b,o,none⟩) k k,.int .i64 (i:Int)] W (fun e w'=>e= .returned (.slice none 0 0)∧w'=W))(h2:∀W,Below w.heap.size w W→Calls Tryz.prog 91 #[.slice (some ⟨b,o+k*8,none⟩) k (c-k)] W (BT W up)):Calls Tryz.prog 255 #[.slice (some ⟨b,o,none⟩) n c,.int .i64 (i:Int)] w (CV w 24 8 (d+1) ((p++[up]).flatMap nmc)):=by
 obtain⟨i0,hi,hz0,hz1,hz2⟩:=info_parts DQ;have H0:=AA h0;clear h0;have HP:=AA hp;clear hp;have H1:=AA h1;clear h1;have H2:=AA h2;clear h2;have hk1:1≤k:=by rw[hk];exact Nat.one_le_two_pow
 have hkb:k≤1099511627776:=by rw[hk];exact Nat.pow_le_pow_right (j:=40) (by omega) hd
 have h2k:n=2*k:=by rw[hn,hk,Nat.pow_succ];omega
 have hcall:∀W,Calls Tryz.prog 137 #[.int .i64 (n:Int)] W fun en w'=>en= .returned (.int .i64 (k:Int))∧w'=W:=fun W=>by
  rw[hk];exact Dn d n W hn hd
 have HC:=AA hcall;clear hcall;have hne1:((n:Int)==1)=false:=by rw[beq_eq_false_iff_ne];omega
 clear hk hn;subst h2k;have i1:(0:Int)≤(k:Int):=by omega
 have i2:(k:Int)≤(c:Int):=by omega
 have i3:(k:Int)≤((2*k:Nat):Int):=by omega
 have i4:¬c=k:=by omega
 have i5:2*k-k=k:=by omega
 have i6:((2*k:Nat):Int)≤(c:Int):=by omega
 have i7:decide ((i:Int)<(k:Int))=true:=by simp;omega
 obtain⟨n,hn⟩:∃n,n=2*k:=⟨_,rfl⟩;rw[←hn]at hne1 HC i3 i5 i6 ⊢;clear hn;go_enter Tryz.func255,Tryz.ntmps255;go_upto_region 7 with((go_at_call 137;refine(HC.out _).mono ?_;rintro en w' ⟨rfl,rfl⟩))
 have hR:Blk (w.alloc (Obj.cells BG 24)) w.heap.size 24 BG:=Blk.new w _ _;have hbW:Below w.heap.size w (w.alloc (Obj.cells BG 24)):=(AC _ _).alloc (AB _) _;generalize (w.alloc (Obj.cells BG 24))=W at*;refine rgD (fun _=>True) (trivial) fun hHeld=>?_
 refine tkD 17 0 ?_;go_frame;refine tkD 18 1 ?_;go_frame;refine tkD 19 2 ?_;go_frame;refine tkD 20 3 ?_;go_frame;refine tkD 21 4 ?_;go_frame;refine tkD 23 6 ?_;go_frame;refine tkD 24 7 ?_;go_frame;refine tkD 25 8 ?_;go_frame;refine rd1 5 fun K hK=>?_
 go_simp;refine(H1.out _ hbW.drew).mono ?_;rintro en w2 ⟨rfl,rfl⟩;have hbx2:=hbW.drew;have hR2:=hR.drew;go_wp2_with fail
 refine hK.out _ _ (trivial) (fun hHeld=>?_);clear hK K;try go_frame
 refine rd1 9 fun K hK=>?_
 go_simp;refine(H2.out _ hbx2).mono ?_;rintro en w3 ⟨rfl,hb3⟩;have hbx3:=hbx2.trans (hb3.mono hbx2.size);have hR3:=hR2.below hb3 hR2.lt;go_wp2_with fail
 refine hK.out _ _ (trivial) (fun hHeld=>?_);clear hK K;try go_frame
 refine tkD 5 10 ?_;go_frame;refine rd1 11 fun K hK=>?_
 rw[if_pos (by rfl)];refine BQ 24 (.tmp 6) (.tmp 26) (by rfl) w.heap.size up.cells (by rfl) (by rfl) 24 BG hR3 rfl Ap ?st1 (by rfl) ?_
 case st1=>exact fun u hu=>FA up hu
 intro w4 hR4 hg4 hs4;refine hK.out _ _ (trivial) (fun hHeld=>?_);clear hK K;try go_frame
 refine dnD ?_;have hbw4:Below w.heap.size w w4:=hbx3.grown hg4 hbx3.size (by rintro j ⟨⟩;omega);have x4:AK w4 w.heap.size 0 8=some up.cells:=hR4.row 8 rfl;clear hR hR2 hR3 hbx2 hbx3 hg4 hs4 hbW;try go_frame
 go_upto_region 9 with fail
 have HLT:Hid (w.heap.size<w4.heap.size):=hR4.lt;clear hR4;refine rgD (fun w'=>AK w' w.heap.size 0 8=some up.cells) (x4) fun hHeld=>?_
 refine tkD 39 0 ?_;go_frame;refine tkD 40 1 ?_;go_frame;refine tkD 41 2 ?_;go_frame;refine tkD 42 3 ?_;go_frame;refine tkD 43 4 ?_;go_frame;refine tkD 44 5 ?_;go_frame;refine tkD 45 6 ?_;go_frame;refine rd1 7 fun K hK=>?_
 go_simp;refine hK.out _ _ (Ay x4 ((AC _ _).drew.alloc (by simp) _) HLT.out) (fun hHeld=>?_);clear hK K;try go_frame
 refine rd1 8 fun K hK=>?_
 rw[if_pos (by rfl)];refine C9 _ (some 47) rfl (.tmp 44) (.tmp 46) _ (by rfl) 24 i0 (Nm.val ⟨0,0,0,0,0,0,0,0⟩) 8 8 Tryz.underlying75 hi hz0 hz1 hz2 rfl (by decide) none 0 0 [] (by rfl) ?an ?al ?ah ⟨w4.heap.size,0,none⟩ 1 1 (nmc up) (by rfl) rfl ?ac ?a1 ?af ?ab ?a2 ?_
 case an=>exact fun _=>⟨rfl,rfl⟩
 case al=>rfl
 case ah=>intro q hq;cases hq
 case ac=>
  intro j u hu;rw[Addr.add_mid,Nat.zero_add,←hu];simp
 case a1=>exact fun u hu=>Ed (l:=[up]) (by simpa using hu)
 case af=>omega
 case ab=>unfold maxLen;omega
 case a2=>omega
 intro v5 w5 hown5 hg5;have HB5:Hid (Below w4.heap.size w4 w5):=((AC _ _).drew.alloc (by simp) _).grown hg5 (by simp) (by rintro j ⟨⟩);refine hK.out _ _ (Ay x4 HB5.out HLT.out) (fun hHeld=>?_);clear hK K;try go_frame
 refine tkD 4 9 ?_;go_frame;refine dnD ?_;have hbw5:=hbw4.trans (HB5.out.mono hbw4.size);obtain⟨A5,c5,rfl⟩:=Ar hown5;go_wp2;go_ret;have h0:=H0.out;subst h0;have e5:(p++[up]).flatMap nmc=[]++nmc up:=by rw[AV HP.out];simp
 exact⟨A5,c5,rfl,BF (by rw[e5];exact hown5) (by have:=hbw4.size;simp;omega),hbw5⟩
theorem PZ(d i n k c b o:Nat)(p:List Nm)(up:Nm)(w:World)(hp:p.length=d)(hk:k=2^d)(hn:n=2^(d+1))(hd:d≤40)(hik:k≤i∧i<n)(hc:n≤c)(h1:∀W,Below w.heap.size w W→Calls Tryz.prog 255 #[.slice (some ⟨b,o+k*8,none⟩) k (c-k),.int .i64 ((i:Int)-(k:Int))] W (CV W 24 8 d (p.flatMap nmc)))(h2:∀W,Below w.heap.size w W→Calls Tryz.prog 91 #[.slice (some ⟨b,o,none⟩) k k] W (BT W up)):Calls Tryz.prog 255 #[.slice (some ⟨b,o,none⟩) n c,.int .i64 (i:Int)] w (CV w 24 8 (d+1) ((p++[up]).flatMap nmc)):=by
 obtain⟨i0,hi,hz0,hz1,hz2⟩:=info_parts DQ;have HP:=AA hp;clear hp;have H1:=AA h1;clear h1;have H2:=AA h2;clear h2;have hk1:1≤k:=by rw[hk];exact Nat.one_le_two_pow
 have hkb:k≤1099511627776:=by rw[hk];exact Nat.pow_le_pow_right (j:=40) (by omega) hd
 have h2k:n=2*k:=by rw[hn,hk,Nat.pow_succ];omega
 have hcall:∀W,Calls Tryz.prog 137 #[.int .i64 (n:Int)] W fun en w'=>en= .returned (.int .i64 (k:Int))∧w'=W:=fun W=>by
  rw[hk];exact Dn d n W hn hd
 have HC:=AA hcall;clear hcall;have hne1:((n:Int)==1)=false:=by rw[beq_eq_false_iff_ne];omega
 clear hk hn;subst h2k;have i1:(0:Int)≤(k:Int):=by omega
 have i2:(k:Int)≤(c:Int):=by omega
 have i3:(k:Int)≤((2*k:Nat):Int):=by omega
 have i4:¬c=k:=by omega
 have i5:2*k-k=k:=by omega
 have i6:((2*k:Nat):Int)≤(c:Int):=by omega
 have i7:decide ((i:Int)<(k:Int))=false:=by simp;omega
 have i8:IntKind.i64.wrap ((i:Int)-(k:Int))=(i:Int)-(k:Int):=by rw[IntKind.wrap_i64];omega
 obtain⟨n,hn⟩:∃n,n=2*k:=⟨_,rfl⟩;rw[←hn]at hne1 HC i3 i5 i6 ⊢;clear hn;go_enter Tryz.func255,Tryz.ntmps255;go_upto_region 8 with((go_at_call 137;refine(HC.out _).mono ?_;rintro en w' ⟨rfl,rfl⟩))
 have hR:Blk (w.alloc (Obj.cells BG 24)) w.heap.size 24 BG:=Blk.new w _ _;have hbW:Below w.heap.size w (w.alloc (Obj.cells BG 24)):=(AC _ _).alloc (AB _) _;generalize (w.alloc (Obj.cells BG 24))=W at*;refine rgD (fun _=>True) (trivial) fun hHeld=>?_
 refine tkD 27 0 ?_;go_frame;refine tkD 28 1 ?_;go_frame;refine tkD 29 2 ?_;go_frame;refine tkD 30 3 ?_;go_frame;refine tkD 31 4 ?_;go_frame;refine tkD 32 5 ?_;go_frame;refine tkD 34 7 ?_;go_frame;refine tkD 35 8 ?_;go_frame;refine tkD 36 9 ?_;go_frame;refine tkD 37 10 ?_;go_frame;refine rd1 6 fun K hK=>?_
 go_simp;refine(H1.out _ hbW.drew).mono ?_;rintro en w2 ⟨A2,c2,rfl,hown2,hb2⟩;have hbx2:=hbW.drew.trans (hb2.mono hbW.size);have hR2:=hR.drew.below hb2 hR.drew.lt;go_wp2_with fail
 refine hK.out _ _ (trivial) (fun hHeld=>?_);clear hK K;try go_frame
 refine rd1 11 fun K hK=>?_
 go_simp;refine(H2.out _ hbx2).mono ?_;rintro en w3 ⟨rfl,hb3⟩;have hbx3:=hbx2.trans (hb3.mono hbx2.size);have hR3:=hR2.below hb3 hR2.lt;have hown3:=BA hown2 hb3 (AB _);go_wp2_with fail
 refine hK.out _ _ (trivial) (fun hHeld=>?_);clear hK K;try go_frame
 refine tkD 5 12 ?_;go_frame;refine rd1 13 fun K hK=>?_
 rw[if_pos (by rfl)];refine BQ 24 (.tmp 6) (.tmp 38) (by rfl) w.heap.size up.cells (by rfl) (by rfl) 24 BG hR3 rfl Ap ?st1 (by rfl) ?_
 case st1=>exact fun u hu=>FA up hu
 intro w4 hR4 hg4 hs4;refine hK.out _ _ (trivial) (fun hHeld=>?_);clear hK K;try go_frame
 refine dnD ?_;have hbw4:Below w.heap.size w w4:=hbx3.grown hg4 hbx3.size (by rintro j ⟨⟩;omega);have x4:AK w4 w.heap.size 0 8=some up.cells:=hR4.row 8 rfl;have hneq:hown3.1=hown3.1:=rfl;clear hneq;have hown4:=hown3.kept hg4 (.inr fun e=>by have:=(hown3.lt _ e).1;have:=hbW.size;have:=hR.lt;simp at*;omega);have hnz:A2=none→d=0∧d=0:=fun e=>by
  rcases hown4.2 with⟨hv,h0⟩|⟨g,cap,cur,hv,_⟩
  ·exact⟨h0,h0⟩
  ·injection hv with hA;rw[e]at hA;cases hA
 have HNz:=AA hnz;clear hnz;have hdc:d≤c2:=by
  rcases hown4.2 with⟨hv,h0⟩|⟨g,cap,cur,hv,_,_,h1,h2,_⟩
  ·omega
  ·injection hv with _ _ hc;omega
 have hrd4:=Rd.of_own hown4;have j1:(0:Int)≤(d:Int):=by omega
 have j2:(d:Int)≤(c2:Int):=by omega
 have HW4:Hid (w4.ownsRow W.drew.heap.size 24 8 (.slice A2 d c2) d (p.flatMap nmc)):=hown4;clear hR hR2 hR3 hbx2 hbx3 hg4 hs4 hbW;try go_frame
 go_upto_region 9 with fail
 have HLT:Hid (w.heap.size<w4.heap.size):=hR4.lt;clear hR4;refine rgD (fun w'=>AK w' w.heap.size 0 8=some up.cells) (x4) fun hHeld=>?_
 refine tkD 39 0 ?_;go_frame;refine tkD 40 1 ?_;go_frame;refine tkD 41 2 ?_;go_frame;refine tkD 42 3 ?_;go_frame;refine tkD 43 4 ?_;go_frame;refine tkD 44 5 ?_;go_frame;refine tkD 45 6 ?_;go_frame;refine rd1 7 fun K hK=>?_
 go_simp;refine hK.out _ _ (Ay x4 ((AC _ _).drew.alloc (by simp) _) HLT.out) (fun hHeld=>?_);clear hK K;try go_frame
 refine rd1 8 fun K hK=>?_
 rw[if_pos (by rfl)];refine C9 _ (some 47) rfl (.tmp 44) (.tmp 46) _ (by rfl) 24 i0 (Nm.val ⟨0,0,0,0,0,0,0,0⟩) 8 8 Tryz.underlying75 hi hz0 hz1 hz2 rfl (by decide) A2 d d (p.flatMap nmc) (by rfl) ?an ?al ?ah ⟨w4.heap.size,0,none⟩ 1 1 (nmc up) (by rfl) rfl ?ac ?a1 ?af ?ab ?a2 ?_
 case an=>exact HNz.out
 case al=>rw[AX nmc 8 p (Cb p),HP.out]
 case ah=>
  intro q hq j u hu;rcases hrd4 with h|⟨b5,o5,e5,_,hc5⟩
  ·rw[h]at hu;simp at hu
  ·rw[hq]at e5;injection e5 with e5;subst e5
   rw[Addr.add_mid];have:=hc5 j u hu;have hlt5:=block_lt_of_cell this;have e6:=Below.heap_alloc w4 (.cells up.cells 24) b5 hlt5;show(w4.alloc (.cells up.cells 24)).cell? _=_;rw[World.cell?_of_block (a:=⟨b5,o5+j,none⟩) e6];exact this
 case ac=>
  intro j u hu;rw[Addr.add_mid,Nat.zero_add,←hu];simp
 case a1=>exact fun u hu=>Ed (l:=[up]) (by simpa using hu)
 case af=>omega
 case ab=>unfold maxLen;omega
 case a2=>omega
 intro v5 w5 hown5 hg5;have HB5:Hid (Below w4.heap.size w4 w5):=((AC _ _).drew.alloc (by simp) _).grown hg5 (by simp) (by rintro j ⟨⟩);refine hK.out _ _ (Ay x4 HB5.out HLT.out) (fun hHeld=>?_);clear hK K;try go_frame
 refine tkD 4 9 ?_;go_frame;refine dnD ?_;have hbw5:=hbw4.trans (HB5.out.mono hbw4.size);obtain⟨A5,c5,rfl⟩:=Ar hown5;go_wp2;go_ret;have e5:(p++[up]).flatMap nmc=p.flatMap nmc++nmc up:=by simp
 exact⟨A5,c5,rfl,BF (by rw[e5];exact hown5) (by have:=hbw4.size;simp;omega),hbw5⟩
theorem OO(d i n k c b o:Nat)(p:List Nm)(up:Nm)(w:World)(hp:p.length=d)(h0:d=0)(hk:k=2^d)(hn:n=2^(d+1))(hd:d≤40)(hik:k≤i∧i<n)(hc:n≤c)(h1:∀W,Below w.heap.size w W→Calls Tryz.prog 255 #[.slice (some ⟨b,o+k*8,none⟩) k (c-k),.int .i64 ((i:Int)-(k:Int))] W (fun e w'=>e= .returned (.slice none 0 0)∧w'=W))(h2:∀W,Below w.heap.size w W→Calls Tryz.prog 91 #[.slice (some ⟨b,o,none⟩) k k] W (BT W up)):Calls Tryz.prog 255 #[.slice (some ⟨b,o,none⟩) n c,.int .i64 (i:Int)] w (CV w 24 8 (d+1) ((p++[up]).flatMap nmc)):=by
 obtain⟨i0,hi,hz0,hz1,hz2⟩:=info_parts DQ;have H0:=AA h0;clear h0;have HP:=AA hp;clear hp;have H1:=AA h1;clear h1;have H2:=AA h2;clear h2;have hk1:1≤k:=by rw[hk];exact Nat.one_le_two_pow
 have hkb:k≤1099511627776:=by rw[hk];exact Nat.pow_le_pow_right (j:=40) (by omega) hd
 have h2k:n=2*k:=by rw[hn,hk,Nat.pow_succ];omega
 have hcall:∀W,Calls Tryz.prog 137 #[.int .i64 (n:Int)] W fun en w'=>en= .returned (.int .i64 (k:Int))∧w'=W:=fun W=>by
  rw[hk];exact Dn d n W hn hd
 have HC:=AA hcall;clear hcall;have hne1:((n:Int)==1)=false:=by rw[beq_eq_false_iff_ne];omega
 clear hk hn;subst h2k;have i1:(0:Int)≤(k:Int):=by omega
 have i2:(k:Int)≤(c:Int):=by omega
 have i3:(k:Int)≤((2*k:Nat):Int):=by omega
 have i4:¬c=k:=by omega
 have i5:2*k-k=k:=by omega
 have i6:((2*k:Nat):Int)≤(c:Int):=by omega
 have i7:decide ((i:Int)<(k:Int))=false:=by simp;omega
 have i8:IntKind.i64.wrap ((i:Int)-(k:Int))=(i:Int)-(k:Int):=by rw[IntKind.wrap_i64];omega
 obtain⟨n,hn⟩:∃n,n=2*k:=⟨_,rfl⟩;rw[←hn]at hne1 HC i3 i5 i6 ⊢;clear hn;go_enter Tryz.func255,Tryz.ntmps255;go_upto_region 8 with((go_at_call 137;refine(HC.out _).mono ?_;rintro en w' ⟨rfl,rfl⟩))
 have hR:Blk (w.alloc (Obj.cells BG 24)) w.heap.size 24 BG:=Blk.new w _ _;have hbW:Below w.heap.size w (w.alloc (Obj.cells BG 24)):=(AC _ _).alloc (AB _) _;generalize (w.alloc (Obj.cells BG 24))=W at*;refine rgD (fun _=>True) (trivial) fun hHeld=>?_
 refine tkD 27 0 ?_;go_frame;refine tkD 28 1 ?_;go_frame;refine tkD 29 2 ?_;go_frame;refine tkD 30 3 ?_;go_frame;refine tkD 31 4 ?_;go_frame;refine tkD 32 5 ?_;go_frame;refine tkD 34 7 ?_;go_frame;refine tkD 35 8 ?_;go_frame;refine tkD 36 9 ?_;go_frame;refine tkD 37 10 ?_;go_frame;refine rd1 6 fun K hK=>?_
 go_simp;refine(H1.out _ hbW.drew).mono ?_;rintro en w2 ⟨rfl,rfl⟩;have hbx2:=hbW.drew;have hR2:=hR.drew;go_wp2_with fail
 refine hK.out _ _ (trivial) (fun hHeld=>?_);clear hK K;try go_frame
 refine rd1 11 fun K hK=>?_
 go_simp;refine(H2.out _ hbx2).mono ?_;rintro en w3 ⟨rfl,hb3⟩;have hbx3:=hbx2.trans (hb3.mono hbx2.size);have hR3:=hR2.below hb3 hR2.lt;go_wp2_with fail
 refine hK.out _ _ (trivial) (fun hHeld=>?_);clear hK K;try go_frame
 refine tkD 5 12 ?_;go_frame;refine rd1 13 fun K hK=>?_
 rw[if_pos (by rfl)];refine BQ 24 (.tmp 6) (.tmp 38) (by rfl) w.heap.size up.cells (by rfl) (by rfl) 24 BG hR3 rfl Ap ?st1 (by rfl) ?_
 case st1=>exact fun u hu=>FA up hu
 intro w4 hR4 hg4 hs4;refine hK.out _ _ (trivial) (fun hHeld=>?_);clear hK K;try go_frame
 refine dnD ?_;have hbw4:Below w.heap.size w w4:=hbx3.grown hg4 hbx3.size (by rintro j ⟨⟩;omega);have x4:AK w4 w.heap.size 0 8=some up.cells:=hR4.row 8 rfl;clear hR hR2 hR3 hbx2 hbx3 hg4 hs4 hbW;try go_frame
 go_upto_region 9 with fail
 have HLT:Hid (w.heap.size<w4.heap.size):=hR4.lt;clear hR4;refine rgD (fun w'=>AK w' w.heap.size 0 8=some up.cells) (x4) fun hHeld=>?_
 refine tkD 39 0 ?_;go_frame;refine tkD 40 1 ?_;go_frame;refine tkD 41 2 ?_;go_frame;refine tkD 42 3 ?_;go_frame;refine tkD 43 4 ?_;go_frame;refine tkD 44 5 ?_;go_frame;refine tkD 45 6 ?_;go_frame;refine rd1 7 fun K hK=>?_
 go_simp;refine hK.out _ _ (Ay x4 ((AC _ _).drew.alloc (by simp) _) HLT.out) (fun hHeld=>?_);clear hK K;try go_frame
 refine rd1 8 fun K hK=>?_
 rw[if_pos (by rfl)];refine C9 _ (some 47) rfl (.tmp 44) (.tmp 46) _ (by rfl) 24 i0 (Nm.val ⟨0,0,0,0,0,0,0,0⟩) 8 8 Tryz.underlying75 hi hz0 hz1 hz2 rfl (by decide) none 0 0 [] (by rfl) ?an ?al ?ah ⟨w4.heap.size,0,none⟩ 1 1 (nmc up) (by rfl) rfl ?ac ?a1 ?af ?ab ?a2 ?_
 case an=>exact fun _=>⟨rfl,rfl⟩
 case al=>rfl
 case ah=>intro q hq;cases hq
 case ac=>
  intro j u hu;rw[Addr.add_mid,Nat.zero_add,←hu];simp
 case a1=>exact fun u hu=>Ed (l:=[up]) (by simpa using hu)
 case af=>omega
 case ab=>unfold maxLen;omega
 case a2=>omega
 intro v5 w5 hown5 hg5;have HB5:Hid (Below w4.heap.size w4 w5):=((AC _ _).drew.alloc (by simp) _).grown hg5 (by simp) (by rintro j ⟨⟩);refine hK.out _ _ (Ay x4 HB5.out HLT.out) (fun hHeld=>?_);clear hK K;try go_frame
 refine tkD 4 9 ?_;go_frame;refine dnD ?_;have hbw5:=hbw4.trans (HB5.out.mono hbw4.size);obtain⟨A5,c5,rfl⟩:=Ar hown5;go_wp2;go_ret;have h0:=H0.out;subst h0;have e5:(p++[up]).flatMap nmc=[]++nmc up:=by rw[AV HP.out];simp
 exact⟨A5,c5,rfl,BF (by rw[e5];exact hown5) (by have:=hbw4.size;simp;omega),hbw5⟩
theorem Gu:∀(d i:Nat) (l:List Nm) (b o n c:Nat) (w:World),l.length=n→n=2^d→d≤40→n≤c→c≤maxLen→i<n→Rd w w.heap.size (some ⟨b,o,none⟩) (l.flatMap nmc)→
  Calls Tryz.prog 255 #[.slice (some ⟨b,o,none⟩) n c,.int .i64 (i:Int)] w (CV w 24 8 d ((E9 d i l).flatMap nmc))
 |0,i,l,b,o,n,c,w,hl,hn,_,_,_,_,_=>by
  obtain rfl:n=1:=hn;refine(Fw _ c i w).mono ?_;rintro e w' ⟨rfl,rfl⟩;exact⟨none,0,rfl,⟨rfl,.inl ⟨rfl,rfl⟩⟩,AC _ _⟩
 |d+1,i,l,b,o,n,c,w,hl,hn,hd,hc,hm,hi,hr=>by
  have h2:n=2*2^d:=by rw[hn,Nat.pow_succ];omega
  have hp:1≤2^d:=Nat.one_le_two_pow;have hrt:∀W,Below w.heap.size w W→Rd W W.heap.size (some ⟨b,o,none⟩) ((l.take (2^d)).flatMap nmc):=fun W hW=>PW ((hr.below hW).more hW.size) _
  have hrd:∀W,Below w.heap.size w W→Rd W W.heap.size (some ⟨b,o+2^d*8,none⟩) ((l.drop (2^d)).flatMap nmc):=fun W hW=>PX ((hr.below hW).more hW.size) _
  have ht:(l.take (2^d)).length=2^d:=by rw[AZ];omega
  have hdl:(l.drop (2^d)).length=2^d:=by rw[List.length_drop];omega
  have R1:∀W,Below w.heap.size w W→Calls Tryz.prog 91 #[.slice (some ⟨b,o+2^d*8,none⟩) (2^d) (c-2^d)] W (BT W (E8 d (l.drop (2^d)))):=fun W hW=>ET d _ _ _ _ W hdl rfl (by omega) (by omega) (by omega) (hrd W hW)
  have R2:∀W,Below w.heap.size w W→Calls Tryz.prog 91 #[.slice (some ⟨b,o,none⟩) (2^d) (2^d)] W (BT W (E8 d (l.take (2^d)))):=fun W hW=>ET d _ _ _ _ W ht rfl (by omega) (by omega) (by omega) (hrt W hW)
  rw[E9];split
  ·rename_i h
   cases d with
   |zero=>
    exact ON 0 i n 1 c b o _ _ w (DM 0 i _) rfl rfl hn (by omega) (by omega) hc (fun W hW=>Fw _ _ i W) R1
   |succ d=>
    exact PY (d+1) i n (2^(d+1)) c b o _ _ w (DM _ i _) rfl hn (by omega) (by omega) hc (fun W hW=>Gu (d+1) i _ b o _ _ W ht rfl (by omega) (by omega) (by omega) (by omega) (hrt W hW)) R1
  ·rename_i h
   have hs:((i-2^d:Nat):Int)=(i:Int)-((2^d:Nat):Int):=by omega
   cases d with
   |zero=>
    refine OO 0 i n 1 c b o _ _ w (DM 0 _ _) rfl rfl hn (by omega) (by omega) hc (fun W hW=>?_) R2;have h1:=Fw (some ⟨b,o+1*8,none⟩) (c-1) (i-2^0) W;rw[hs]at h1;exact h1
   |succ d=>
    refine PZ (d+1) i n (2^(d+1)) c b o _ _ w (DM _ _ _) rfl hn (by omega) (by omega) hc (fun W hW=>?_) R2;have h1:=Gu (d+1) (i-2^(d+1)) _ b (o+2^(d+1)*8) _ (c-2^(d+1)) W hdl rfl (by omega) (by omega) (by omega) (by omega) (hrd W hW);rw[hs]at h1;exact h1
def LH(w:World)(d:Nat)(p:List Nm)(e:Ending)(w':World):Prop:=
 ∃A c,e= .returned (.tuple #[.slice A d c,.bool true])∧w'.ownsRow w.heap.size 24 8 (.slice A d c) d (p.flatMap nmc)∧Below w.heap.size w w'
theorem Pa(i:Nat)(l:List Nm)(b o c:Nat)(w:World)(hl:l.length=32)(hc:32≤c)(hm:c≤maxLen)(hi:i<32)(hr:Rd w w.heap.size (some ⟨b,o,none⟩) (l.flatMap nmc)):Calls Tryz.prog 219 #[.slice (some ⟨b,o,none⟩) 32 c,.int .i64 (i:Int)] w (LH w 5 (E9 5 i l)):=by
 have HD:=AA (fun W=>Ry i W hi);have HC:=AA (Gu 5 i l b o 32 c w hl rfl (by omega) hc hm hi hr);obtain⟨p,hp⟩:∃p,p=E9 5 i l:=⟨_,rfl⟩;rw[←hp]at HC ⊢;clear hp hr;go_enter Tryz.func219,Tryz.ntmps219;go_wp2_with (first
  |(go_at_call 254;refine(HD.out _).mono ?_;rintro en w' ⟨rfl,rfl⟩)
  |(go_at_call 255;refine HC.out.mono ?_;rintro en w2 ⟨A2,c2,rfl,hown2,hb2⟩))
 go_ret2;exact⟨A2,c2,rfl,hown2,hb2⟩
end
end Go.Proofs.YtadllffeoibelaaGreat
