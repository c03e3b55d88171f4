/-
  What these parts of the proof come to, functions walked and plain laws: Num, Codec, Enc, Sg, Word0, Word, Word2. No condition.
-/
import Derived.Test.YtadllffeoibelaaGreatS2
import Derived.LoopN
import Derived.Test.YtadllffeoibelaaGreatS1
import Derived.Laws.CopyOwn
import Derived.BigQuiet
import Derived.Deep.QuietTactic
namespace Go.Proofs.YtadllffeoibelaaGreat
set_option maxRecDepth 100000
set_option maxHeartbeats 32000000
section
open Go.RowKit
def Dd(l:List UInt8):Nat:=l.foldl (fun v b=>v*256+b.toNat) 0
theorem H8:∀(l:List UInt8) (v:Nat),l.foldl (fun v b=>v*256+b.toNat) v<(v+1)*256^l.length
 |[],v=>by simp
 |b::r,v=>by
  have hb:=b.toNat_lt;have h:=H8 r (v*256+b.toNat);rw[List.foldl_cons,Af,Nat.pow_succ];refine Nat.lt_of_lt_of_le h ?_;rw[Nat.mul_comm (256^r.length) 256,←Nat.mul_assoc];exact Nat.mul_le_mul_right _ (by omega)
theorem KY(l:List UInt8):Dd l<256^l.length:=by
 have:=H8 l 0;simpa[Dd]using this
theorem QI(a b k:Nat)(hb:b<2^k)(h:2^k*a+b<18446744073709551616):bits .or .u64 ((2^k*a:Nat):Int) (b:Int)=((2^k*a+b:Nat):Int):=by
 show IntKind.u64.wrap ((BitVec.ofInt 64 ((2^k*a:Nat):Int)|||BitVec.ofInt 64 (b:Int)).toNat:Int)=_;rw[BitVec.toNat_or,BitVec.ofInt_natCast,BitVec.ofInt_natCast,BitVec.toNat_ofNat,BitVec.toNat_ofNat,Nat.mod_eq_of_lt (by omega),Nat.mod_eq_of_lt (by omega),←Nat.two_pow_add_eq_or_of_lt hb,IntKind.wrap_u64];omega
theorem EA(v:Nat)(b:UInt8)(hv:v<72057594037927936):bits .or .u64 (IntKind.u64.wrap ((v:Int)*256)) (IntKind.u64.wrap (b.toNat:Int))=((v*256+b.toNat:Nat):Int):=by
 have hb:=b.toNat_lt;have e1:IntKind.u64.wrap ((v:Int)*256)=((2^8*v:Nat):Int):=by rw[IntKind.wrap_u64];omega
 have e2:IntKind.u64.wrap (b.toNat:Int)=((b.toNat:Nat):Int):=by rw[IntKind.wrap_u64];omega
 rw[e1,e2,QI v b.toNat 8 (by omega) (by omega)];omega
theorem Rf(b:UInt8):bits .or .u64 0 (IntKind.u64.wrap (b.toNat:Int))=((b.toNat:Nat):Int):=by
 have h:=EA 0 b (by omega);have z:IntKind.u64.wrap (((0:Nat):Int)*256)=0:=by rw[IntKind.wrap_u64];rfl
 rw[z,Nat.zero_mul,Nat.zero_add]at h;exact h
theorem QJ(b0 b1 b2 b3 b4 b5 b6 b7:UInt8):bits .or .u64 (IntKind.u64.wrap (bits .or .u64 (IntKind.u64.wrap (bits .or .u64 (IntKind.u64.wrap (bits .or .u64 (IntKind.u64.wrap (bits .or .u64 (IntKind.u64.wrap (bits .or .u64 (IntKind.u64.wrap (bits .or .u64 (IntKind.u64.wrap (bits .or .u64 0 (IntKind.u64.wrap (b0.toNat:Int))*256)) (IntKind.u64.wrap (b1.toNat:Int))*256)) (IntKind.u64.wrap (b2.toNat:Int))*256)) (IntKind.u64.wrap (b3.toNat:Int))*256)) (IntKind.u64.wrap (b4.toNat:Int))*256)) (IntKind.u64.wrap (b5.toNat:Int))*256)) (IntKind.u64.wrap (b6.toNat:Int))*256)) (IntKind.u64.wrap (b7.toNat:Int))=((Dd [b0,b1,b2,b3,b4,b5,b6,b7]:Nat):Int):=by
 have h0:=b0.toNat_lt;have h1:=b1.toNat_lt;have h2:=b2.toNat_lt;have h3:=b3.toNat_lt;have h4:=b4.toNat_lt;have h5:=b5.toNat_lt;have h6:=b6.toNat_lt;rw[Rf,EA _ b1 (by omega),EA _ b2 (by omega),EA _ b3 (by omega),EA _ b4 (by omega),EA _ b5 (by omega),EA _ b6 (by omega),EA _ b7 (by omega)];simp[Dd]
theorem ix0(a b c d e f g h:Value)(w:World):(Instr.index 24 (.agg #[a,b,c,d,e,f,g,h]) (.int .i64 0)).run Tryz.prog w= .ok a w:=by kernel_rfl
theorem ix1(a b c d e f g h:Value)(w:World):(Instr.index 24 (.agg #[a,b,c,d,e,f,g,h]) (.int .i64 1)).run Tryz.prog w= .ok b w:=by kernel_rfl
theorem ix2(a b c d e f g h:Value)(w:World):(Instr.index 24 (.agg #[a,b,c,d,e,f,g,h]) (.int .i64 2)).run Tryz.prog w= .ok c w:=by kernel_rfl
theorem ix3(a b c d e f g h:Value)(w:World):(Instr.index 24 (.agg #[a,b,c,d,e,f,g,h]) (.int .i64 3)).run Tryz.prog w= .ok d w:=by kernel_rfl
theorem ix4(a b c d e f g h:Value)(w:World):(Instr.index 24 (.agg #[a,b,c,d,e,f,g,h]) (.int .i64 4)).run Tryz.prog w= .ok e w:=by kernel_rfl
theorem ix5(a b c d e f g h:Value)(w:World):(Instr.index 24 (.agg #[a,b,c,d,e,f,g,h]) (.int .i64 5)).run Tryz.prog w= .ok f w:=by kernel_rfl
theorem ix6(a b c d e f g h:Value)(w:World):(Instr.index 24 (.agg #[a,b,c,d,e,f,g,h]) (.int .i64 6)).run Tryz.prog w= .ok g w:=by kernel_rfl
theorem ix7(a b c d e f g h:Value)(w:World):(Instr.index 24 (.agg #[a,b,c,d,e,f,g,h]) (.int .i64 7)).run Tryz.prog w= .ok h w:=by kernel_rfl
attribute [local go_sem] ix0 ix1 ix2 ix3 ix4 ix5 ix6 ix7
def Fc(w:World)(x:Nat)(e:Ending)(w':World):Prop:=e= .returned (.int .u64 (x:Int))∧Below w.heap.size w w'
theorem F0(n:Nm)(w:World):Calls Tryz.prog 182 #[n.val] w (Fc w (Dd n.bytes)):=by
 go_enter Tryz.func182,Tryz.ntmps182;go_wp2;refine wp_loop_rounds 9 ?_
 iterate 9 (rw[rounds_succ];go_wp2)
 go_ret;exact⟨NX (QJ n.b0 n.b1 n.b2 n.b3 n.b4 n.b5 n.b6 n.b7),(AC _ _).alloc (AB _) _⟩
def bt(v k:Nat):UInt8:=UInt8.ofNat (v/256^k)
def ofN(v:Nat):Nm:=⟨bt v 7,bt v 6,bt v 5,bt v 4,bt v 3,bt v 2,bt v 1,bt v 0⟩
theorem F3(v k p:Nat)(hp:256^k=p):B (bt v k)= .int .u8 ((v:Int)/(p:Int)%256):=by
 subst hp;rw[Value.int.injEq];refine⟨rfl,?_⟩;simp[bt]
theorem Rg(v:Nat):B (bt v 0)= .int .u8 ((v:Int)%256):=by
 simp[bt]
theorem Rh(v:Nat):(ofN v).val= .agg #[.int .u8 ((v:Int)/72057594037927936%256),.int .u8 ((v:Int)/281474976710656%256),.int .u8 ((v:Int)/1099511627776%256),.int .u8 ((v:Int)/4294967296%256),.int .u8 ((v:Int)/16777216%256),.int .u8 ((v:Int)/65536%256),.int .u8 ((v:Int)/256%256),.int .u8 ((v:Int)%256)]:=by
 simp only[Nm.val,ofN];rw[F3 v 7 72057594037927936 (by decide),F3 v 6 281474976710656 (by decide),F3 v 5 1099511627776 (by decide),F3 v 4 4294967296 (by decide),F3 v 3 16777216 (by decide),F3 v 2 65536 (by decide),F3 v 1 256 (by decide),Rg];rfl
def BT(w:World)(n:Nm)(e:Ending)(w':World):Prop:=e= .returned n.val∧Below w.heap.size w w'
theorem S6(v:Nat)(w:World):Calls Tryz.prog 127 #[.int .u64 (v:Int)] w (BT w (ofN v)):=by
 go_enter Tryz.func127,Tryz.ntmps127;go_wp2;refine bodyPost_ret (results_cell_row (g:=w.heap.size) rfl _ _ _ _ _ _ rfl (heap_alloc_new w _) Tryz.underlying24 rfl (by kernel_rfl)) rfl ⟨?_,(AC _ _).alloc (AB _) _⟩;rw[Rh]
theorem Bt:(Tryz.prog.info? 5).map (fun i=>(i.zero,i.size,i.bytes))=some (some (.int .u8 0),1,1):=by kernel_rfl
def CV(w:World)(e size n:Nat)(xs:List Value)(en:Ending)(w':World):Prop:=
 ∃A c,en= .returned (.slice A n c)∧w'.ownsRow w.heap.size e size (.slice A n c) n xs∧Below w.heap.size w w'
theorem Nd(A:Option Addr)(len c n:Nat)(xs:List Value)(w:World)(hl:xs.length=len)(hr:Rd w w.heap.size A xs)(h1:∀u∈xs,u.oneCell'=true)(hlen:len≤140737488351232)(hn:n≤8):Calls Tryz.prog 119 #[.slice A len c,.int .i64 n] w (CV w 5 1 len xs):=by
 obtain⟨i0,hi,hz0,hz1,hz2⟩:=info_parts Bt;have hmk:∀W:World,(Instr.makeSlice 60 (.int .i64 (len:Int)) (.int .i64 ((len:Int)+(n:Int)))).run Tryz.prog W= .ok (.slice (some ⟨W.heap.size,0,none⟩) len (len+n)) (W.alloc (.cells (madeCells #[.int .u8 0] (len+n)) 5)):=fun W=>by
  have:=run_make (P:=Tryz.prog) W 60 5 i0 (.int .u8 0) Tryz.underlying60 hi hz0 .i64 .i64 len (len+n) (by omega) (by omega) (by rw[hz2];omega) (by omega);rw[this,hz1];simp only[Int.toNat_natCast,Nat.mul_one,Value.cells,show((len:Int)+(n:Int)).toNat=len+n from by omega]
 have Hl:=AA hl;clear hl;go_enter Tryz.func119,Tryz.ntmps119;go_wp2_with (refine wpList_copy_splice rfl (.tmp 13) (.tmp 14) _ _ rfl 5 Tryz.underlying60 (by kernel_rfl) _ _ _ _ _ _ rfl rfl w.heap.size 0 (madeCells #[.int .u8 0] (len+n)).toList 5 ?h1 xs ?h2 ?h3 ?h4 h1 w.heap.size w ?h5 (AB _) ?_)
 case h1=>exact heap_alloc_new w _
 case h2=>have:=Hl.out;simp;omega
 case h3=>
  intro hp;obtain⟨b,o,rfl,hb,hc⟩:=hr.cells (by rintro rfl;simp at hp);refine⟨_,rfl,fun j v hv=>?_⟩;rw[Addr.add_mid,World.cell?_alloc_lt _ _ _ hb];exact hc j v hv
 case h4=>have:=Hl.out;simp[size_madeCells];omega
 case h5=>exact(AC _ _).alloc (AB _) _
 intro w1 hg hb;go_wp2;go_ret;refine⟨_,_,rfl,⟨by have:=Hl.out;simp;omega,.inr ⟨_,_,_,rfl,AB _,hg.out,by omega,by unfold maxLen;omega,?_,?_⟩⟩,hb⟩
 ·have:=Hl.out;simp[splice,size_madeCells];omega
 ·have:=Hl.out;subst this;simp[splice]
theorem QK(A:Option Addr)(len c:Nat)(x:Int)(xs:List Value)(w:World)(hl:xs.length=len)(hr:Rd w w.heap.size A xs)(h1:∀u∈xs,u.oneCell'=true)(hlen:len≤140737488351232):Calls Tryz.prog 80 #[.slice A len c,.int .u64 x,.int .i64 0] w (CV w 5 1 len xs):=by
 have Hl:=AA hl;clear hl;have HR:=AA hr;clear hr;have H1:=AA h1;clear h1;go_enter Tryz.func80,Tryz.ntmps80;go_wp2_with fail
 refine(Nd A len c 0 xs _ Hl.out HR.out H1.out hlen (by omega)).mono ?_;rintro e w1 ⟨A1,c1,rfl,hown,hb⟩;go_wp2_with fail
 refine wp_loop_rounds 1 ?_;rw[rounds_succ];go_wp2;go_ret;exact⟨A1,c1,rfl,hown,hb⟩
def Bb(v:Nat)(k:Nat):UInt8:=UInt8.ofNat (v/256^k)
theorem Ri(v:Nat):B (Bb v 0)= .int .u8 ((v:Int)%256):=by
 simp[Bb]
theorem Rj(v:Nat):B (Bb v 1)= .int .u8 ((v:Int)/256%256):=by
 simp[Bb]
theorem GZ{u x:Value}(h:u∈[x])(hx:x.oneCell'=true):u.oneCell'=true:=by
 simp at h;subst h;exact hx
theorem I4(A:Option Addr)(len c v:Nat)(xs:List Value)(w:World)(hl:xs.length=len)(hr:Rd w w.heap.size A xs)(h1:∀u∈xs,u.oneCell'=true)(hlen:len≤1000000):Calls Tryz.prog 80 #[.slice A len c,.int .u64 v,.int .i64 2] w (CV w 5 1 (len+2) (xs++[B (Bb v 1),B (Bb v 0)])):=by
 have Hl:=AA hl;clear hl;have HR:=AA hr;clear hr;have H1:=AA h1;clear h1;go_enter Tryz.func80,Tryz.ntmps80;go_wp2_with fail
 refine(Nd A len c 2 xs _ Hl.out HR.out H1.out (by omega) (by omega)).mono ?_;rintro e w1 ⟨A1,c1,rfl,hown,hb⟩;go_wp2_with fail
 refine wp_loop_rounds 3 ?_;rw[rounds_succ];go_wp2_with (at_builtin;refine Aq rfl (.tmp 21) (.tmp 27) _ rfl w.heap.size 5 (.int .u8 0) 1 1 Tryz.underlying60 Bt rfl (by decide) _ len xs rfl (hown.alloc _) (w1.heap.size+1) _ 1 1 [B (Bb v 1)] rfl rfl ?r1 ?r2 ?r3 ?r4 ?r5 ?_)
 case r1=>rw[Rj];exact Rd.one _ _ _
 case r2=>exact fun u hu=>GZ hu rfl
 case r3=>omega
 case r4=>unfold maxLen;omega
 case r5=>have:=hb.size;simp;omega
 intro v2 w2 hown2 hg2 hat2;have hb2:Below w.heap.size w w2:=BL (hb.alloc hb.size _) (hown.alloc _) hg2;clear hat2 hg2;go_wp2;rw[rounds_succ];go_wp2_with (at_builtin;refine Aq rfl (.tmp 21) (.tmp 27) _ rfl w.heap.size 5 (.int .u8 0) 1 1 Tryz.underlying60 Bt rfl (by decide) _ (len+1) (xs++[B (Bb v 1)]) rfl (hown2.alloc _) (w2.heap.size+1) _ 1 1 [B (Bb v 0)] rfl rfl ?q1 ?q2 ?q3 ?q4 ?q5 ?_)
 case q1=>rw[Ri];exact Rd.one _ _ _
 case q2=>exact fun u hu=>GZ hu rfl
 case q3=>omega
 case q4=>unfold maxLen;omega
 case q5=>have:=hb2.size;simp;omega
 intro v3 w3 hown3 hg3 hat3;have hb3:Below w.heap.size w w3:=BL (hb2.alloc hb2.size _) (hown2.alloc _) hg3;clear hat3 hg3;go_wp2;rw[rounds_succ];go_wp2;go_ret;obtain⟨A3,c3,rfl⟩:=Ar hown3;exact⟨A3,c3,rfl,by simpa using hown3,hb3⟩
theorem QL(A:Option Addr)(len c:Nat)(x:Int)(xs:List Value)(w:World)(hl:xs.length=len)(hr:Rd w w.heap.size A xs)(h1:∀u∈xs,u.oneCell'=true)(hlen:len≤1000000)(hx:0≤x):Calls Tryz.prog 80 #[.slice A len c,.int .u64 x,.int .i64 2] w (CV w 5 1 (len+2) (xs++[B (Bb x.toNat 1),B (Bb x.toNat 0)])):=by
 obtain⟨n,rfl⟩:=Int.eq_ofNat_of_zero_le hx;exact I4 A len c n xs w hl hr h1 hlen
theorem B3{u:Value}{l:List UInt8}(h:u∈l.map B):u.oneCell'=true:=by
 obtain⟨b,_,rfl⟩:=List.mem_map.1 h;rfl
def DX(n:Int):UInt8:=UInt8.ofNat n.toNat
def Mt(v:Vt):List UInt8:=[DX v.kind,DX v.slot,DX v.round,DX v.choice,DX v.signer]
def Mu(v:Vt):List UInt8:=[DX v.kind,DX v.slot,DX v.round,DX v.choice,DX v.signer,Bb v.support.toNat 1,Bb v.support.toNat 0]++v.parent.bytes++v.value.bytes
theorem Ct{n:Int}(h0:0≤n)(h1:n≤255):B (DX n)= .int .u8 n:=by
 show Value.int .u8 _=_;rw[Value.int.injEq];refine⟨rfl,?_⟩;simp[DX];omega
theorem Ae.bounds{v:Vt}(h:Ae v):(0≤v.kind∧v.kind≤7)∧(0≤v.slot∧v.slot≤9)∧(0≤v.round∧v.round≤12)∧(0≤v.choice∧v.choice≤2)∧(0≤v.signer∧v.signer≤9)∧(0≤v.support∧v.support≤1023):=by
 obtain⟨h1,h2,_,h4,h5,h6,h7,h8⟩:=h;omega
def Rk(w:World)(e size n:Nat)(xs:List Value)(en:Ending)(w':World):Prop:=
 ∃A c,en= .returned (.tuple #[.slice A n c,.bool true])∧w'.ownsRow w.heap.size e size (.slice A n c) n xs∧Below w.heap.size w w'
def QM(w:World)(en:Ending)(w':World):Prop:=en= .returned (.tuple #[.slice none 0 0,.bool false])∧Below w.heap.size w w'
theorem Hb(v:Vt)(w:World)(hv:v.ok)(hy:Ae v):Calls Tryz.prog 49 #[v.val] w fun e w'=>e= .returned (.bool true)∧Below w.heap.size w w':=
 (Cm v w hv).mono fun _ _ h=>⟨by rw[h.1,decide_eq_true hy],h.2⟩
theorem QN(v:Vt)(w:World)(hv:v.ok)(hy:¬Ae v):Calls Tryz.prog 49 #[v.val] w fun e w'=>e= .returned (.bool false)∧Below w.heap.size w w':=
 (Cm v w hv).mono fun _ _ h=>⟨by rw[h.1,decide_eq_false hy],h.2⟩
theorem Hc:(Tryz.prog.info? 46).map (·.size)=some 22:=by kernel_rfl
theorem QO(v:Vt)(w:World)(hv:v.ok)(hy:Ae v):Calls Tryz.prog 165 #[v.val] w (Rk w 5 1 23 ((Mu v).map B)):=by
 obtain⟨⟨b1,b1'⟩,⟨b2,b2'⟩,⟨b3,b3'⟩,⟨b4,b4'⟩,⟨b5,b5'⟩,⟨b6,b6'⟩⟩:=hy.bounds;have Hy:=AA hy;clear hy;have hmk:∀W:World,(Instr.makeSlice 60 (.int .i64 0) (.int .i64 23)).run Tryz.prog W= .ok (.slice (some ⟨W.heap.size,0,none⟩) 0 23) (W.alloc (.cells (Array.replicate 23 (.int .u8 0)) 5)):=fun W=>by kernel_rfl
 go_enter Tryz.func165,Tryz.ntmps165;go_wp2_with (refine wpList_load_row rfl 46 _ rfl w.heap.size rfl 46 v.cells (0,0) _ (heap_alloc_new w _) Tryz.underlying46 rfl Hc ?_)
 refine(Hb v _ hv Hy.out).mono ?_;rintro e w1 ⟨rfl,hb⟩;have hB1:Blk w1 w.heap.size 46 v.cells:=(Blk.new w _ _).below hb (by simp);have hb1:Below w.heap.size w w1:=((AC _ _).alloc (AB _) _).trans (hb.mono (by simp));clear hb;have hlt:w.heap.size<w1.heap.size:=hB1.lt;have c0:w1.cell? ⟨w.heap.size,0,none⟩=some (I v.kind):=hB1.cell 0;have c1:w1.cell? ⟨w.heap.size,1,none⟩=some (I v.slot):=hB1.cell 1;have c2:w1.cell? ⟨w.heap.size,2,none⟩=some (I v.round):=hB1.cell 2;have c3:w1.cell? ⟨w.heap.size,3,none⟩=some (I v.choice):=hB1.cell 3;have c4:w1.cell? ⟨w.heap.size,4,none⟩=some (I v.signer):=hB1.cell 4;have c5:w1.cell? ⟨w.heap.size,5,none⟩=some (I v.support):=hB1.cell 5;go_wp2_with (at_builtin;refine Aq rfl (.tmp 9) (.tmp 25) _ rfl w.heap.size 5 (.int .u8 0) 1 1 Tryz.underlying60 Bt rfl (by decide) (.slice (some ⟨w1.heap.size,0,none⟩) 0 23) 0 [] rfl ?r0 (w1.heap.size+2) _ 5 5 ((Mt v).map B) rfl rfl ?r1 ?r2 ?r3 ?r4 ?r5 ?_)
 case r0=>exact World.ownsRow.alloc (World.ownsRow_made _ _ 23 hb1.size (by unfold maxLen;omega) (by simp)) _
 case r1=>
  have h:=Rd.of_blk (Blk.new (w1.alloc (Obj.cells (Array.replicate 23 (Value.int IntKind.u8 0)) 5)) 5 #[B (DX v.kind),B (DX v.slot),B (DX v.round),B (DX v.choice),B (DX v.signer)]) 0 5;rw[Ct b1 (by omega),Ct b2 (by omega),Ct b3 (by omega),Ct b4 (by omega),Ct b5 (by omega)]at h;simp only[Mt,List.map_cons,List.map_nil,Ct b1 (show v.kind≤255 by omega),Ct b2 (show v.slot≤255 by omega),Ct b3 (show v.round≤255 by omega),Ct b4 (show v.choice≤255 by omega),Ct b5 (show v.signer≤255 by omega)];simpa using h
 case r2=>exact fun u hu=>B3 hu
 case r3=>omega
 case r4=>unfold maxLen;omega
 case r5=>have:=hb1.size;simp;omega
 intro v2 w2 hown2 hg2 hat2;have hB2:Blk w2 w.heap.size 46 v.cells:=((hB1.alloc _).alloc _).kept hg2 (by simp[Value.ownBlock];omega);have hb2:Below w.heap.size w w2:=(((hb1.alloc hb1.size _).alloc (by have:=hb1.size;simp;omega) _)).grown hg2 (by have:=hb1.size;simp;omega) (by simp[Value.ownBlock];have:=hb1.size;omega);clear hg2 hat2 c0 c1 c2 c3 c4 c5 hlt hB1 hb1 hmk;obtain⟨A2,c2,rfl⟩:=Ar hown2;have c5:w2.cell? ⟨w.heap.size,5,none⟩=some (I v.support):=hB2.cell 5;go_wp2_with fail
 refine(QL A2 5 c2 v.support _ w2 (by simp[Mt]) (Rd.of_own hown2) (fun u hu=>B3 hu) (by omega) b6).mono ?_;rintro e w3 ⟨A3,c3,rfl,hown3,hb3'⟩;have hB3:Blk w3 w.heap.size 46 v.cells:=hB2.below hb3' hB2.lt;have hb3:Below w.heap.size w w3:=hb2.trans (hb3'.mono hb2.size);replace hown3:=BF hown3 hb2.size;clear hb3' hB2 hb2 hown2 c5;have hlt3:=hB3.lt;go_wp2_with (at_builtin;refine Aq rfl (.tmp 32) (.tmp 34) _ rfl w.heap.size 5 (.int .u8 0) 1 1 Tryz.underlying60 Bt rfl (by decide) _ 7 ((Mt v).map B++[B (Bb v.support.toNat 1),B (Bb v.support.toNat 0)]) rfl ?q0 (w3.heap.size) _ 8 8 (v.parent.bytes.map B) rfl rfl ?q1 ?q2 ?q3 ?q4 ?q5 ?_)
 case q0=>exact hown3
 case q1=>exact Rd.of_blk hB3 6 8
 case q2=>exact fun u hu=>B3 hu
 case q3=>omega
 case q4=>unfold maxLen;omega
 case q5=>exact hb3.size
 intro v4 w4 hown4 hg4 hat4;have hB4:Blk w4 w.heap.size 46 v.cells:=hB3.kept hg4 (CC hown3 hB3 (by decide));have hb4:Below w.heap.size w w4:=BL hb3 hown3 hg4;clear hg4 hat4 hB3 hb3 hown3 hlt3;have hlt4:=hB4.lt;go_wp2_with (at_builtin;refine Aq rfl (.tmp 36) (.tmp 38) _ rfl w.heap.size 5 (.int .u8 0) 1 1 Tryz.underlying60 Bt rfl (by decide) _ (7+8) (((Mt v).map B++[B (Bb v.support.toNat 1),B (Bb v.support.toNat 0)])++v.parent.bytes.map B) rfl ?p0 (w4.heap.size) _ 8 8 (v.value.bytes.map B) rfl rfl ?p1 ?p2 ?p3 ?p4 ?p5 ?_)
 case p0=>exact hown4
 case p1=>exact Rd.of_blk hB4 14 8
 case p2=>exact fun u hu=>B3 hu
 case p3=>omega
 case p4=>unfold maxLen;omega
 case p5=>exact hb4.size
 intro v5 w5 hown5 hg5 hat5;have hb5:Below w.heap.size w w5:=BL hb4 hown4 hg5;clear hg5 hat5 hB4 hb4 hown4 hlt4;obtain⟨A5,c5,rfl⟩:=Ar hown5;go_wp2;go_ret2;refine⟨A5,c5,rfl,?_,hb5⟩;have e:(Mu v).map B=((((Mt v).map B++[B (Bb v.support.toNat 1),B (Bb v.support.toNat 0)])++v.parent.bytes.map B)++v.value.bytes.map B):=by simp[Mu,Mt]
 rw[e];exact hown5
theorem FF{P:Program}{ops:Array Oper}{rest:List Oper}{o:Oper}{a:Act}{w:World}{Q:Exit→Act→World→Prop}(hgd:o.guard=none)(ty:TypeId)(x:Operand)(ho:o.op= .load ty x)(g off:Nat)(hx:a.eval x= .pointer (some ⟨g,off,none⟩))(cs:Array Value)(d:TypeDesc)(hc:∀j u,cs[j]? =some u→w.cell? ⟨g,off+j,none⟩=some u)(hu:P.underlying ty=some d)(hd:d.isRow=true)(hi:(P.info? ty).map (·.size)=some cs.size)(h:wpList P ops Q rest (a.put o.dst (.agg cs)) w):wpList P ops Q (o::rest) a w:=by
 have e:cs.toList.toArray=cs:=by simp
 refine wpList_load_mid hgd ty x ho g off hx cs.toList d ?_ hu hd (by simpa using hi) (by rw[e];exact h);intro j u hj;exact hc j u (by simpa using hj)
structure Sg where
 vote:Vt
 sig:List UInt8
 A:Option Addr
 cap:Nat
namespace Sg
def cells(s:Sg):Array Value:=s.vote.cells.push (.slice s.A s.sig.length s.cap)
abbrev val(s:Sg):Value:=.agg s.cells
theorem size_cells(s:Sg):s.cells.size=23:=by simp[cells]
theorem cell_vote(s:Sg)(j:Nat)(u:Value)(h:s.vote.cells[j]? =some u):s.cells[j]? =some u:=by
 have hj:j<s.vote.cells.size:=by
  rcases Nat.lt_or_ge j s.vote.cells.size with h1|h1
  ·exact h1
  ·rw[Array.getElem?_eq_none h1]at h;cases h
 unfold cells;rw[Array.getElem?_push_lt hj,←h,Array.getElem?_eq_getElem hj]
theorem cell_sig(s:Sg):s.cells[22]? =some (.slice s.A s.sig.length s.cap):=by
 unfold cells;rw[show 22=s.vote.cells.size from rfl,Array.getElem?_push_size]
end Sg
def I5(w:World)(B':Nat)(s:Sg):Prop:=s.vote.ok∧Rd w B' s.A (s.sig.map B)∧s.sig.length≤140737488351232
theorem I5.below{w w':World}{B':Nat}{s:Sg}(h:I5 w B' s)(hb:Below B' w w'):I5 w' B' s:=⟨h.1,h.2.1.below hb,h.2.2⟩
theorem I5.more{w:World}{B' B'':Nat}{s:Sg}(h:I5 w B' s)(hb:B'≤B''):I5 w B'' s:=⟨h.1,h.2.1.more hb,h.2.2⟩
def Oa(l:List UInt8):List UInt8:=(l++[0,0,0,0,0,0,0,0]).take 8
def Et(l:List UInt8):Nat:=Dd (Oa l)
theorem En(x y k:Nat)(hx:x%2^k=0)(hy:y<2^k)(h:x+y<18446744073709551616):bits .or .u64 (x:Int) (y:Int)=((x+y:Nat):Int):=by
 have e:x=2^k*(x/2^k):=by have:=Nat.div_add_mod x (2^k);omega
 have:=QI (x/2^k) y k hy (by rw[←e];exact h);rw[←e]at this;exact this
theorem F4(b:UInt8)(p:Nat)(hp:256*p≤18446744073709551616):IntKind.u64.wrap (IntKind.u64.wrap (b.toNat:Int)*(p:Int))=((b.toNat*p:Nat):Int):=by
 have hb:=b.toNat_lt;have h1:b.toNat*p<256*p∨p=0:=by
  rcases Nat.eq_zero_or_pos p with h|h
  ·exact .inr h
  ·exact .inl (Nat.mul_lt_mul_of_pos_right hb h)
 have e1:IntKind.u64.wrap (b.toNat:Int)=(b.toNat:Int):=by rw[IntKind.wrap_u64];omega
 have e2:(b.toNat:Int)*(p:Int)=((b.toNat*p:Nat):Int):=(Int.natCast_mul ..).symm;rw[e1,e2,IntKind.wrap_u64];rcases h1 with h1|h1
 ·omega
 ·subst h1;simp
theorem Rl(b:UInt8):IntKind.u64.wrap (b.toNat:Int)=((b.toNat:Nat):Int):=by
 have hb:=b.toNat_lt;rw[IntKind.wrap_u64];omega
theorem Tv(b0 b1 b2 b3 b4 b5 b6 b7:UInt8):(bits .or .u64 (bits .or .u64 (bits .or .u64 (bits .or .u64 (bits .or .u64 (bits .or .u64 (bits .or .u64 (IntKind.u64.wrap (IntKind.u64.wrap (b0.toNat:Int)*72057594037927936)) (IntKind.u64.wrap (IntKind.u64.wrap (b1.toNat:Int)*281474976710656))) (IntKind.u64.wrap (IntKind.u64.wrap (b2.toNat:Int)*1099511627776))) (IntKind.u64.wrap (IntKind.u64.wrap (b3.toNat:Int)*4294967296))) (IntKind.u64.wrap (IntKind.u64.wrap (b4.toNat:Int)*16777216))) (IntKind.u64.wrap (IntKind.u64.wrap (b5.toNat:Int)*65536))) (IntKind.u64.wrap (IntKind.u64.wrap (b6.toNat:Int)*256))) (IntKind.u64.wrap (b7.toNat:Int)))=((Et [b0,b1,b2,b3,b4,b5,b6,b7]:Nat):Int):=by
 have h0:=b0.toNat_lt;have h1:=b1.toNat_lt;have h2:=b2.toNat_lt;have h3:=b3.toNat_lt;have h4:=b4.toNat_lt;have h5:=b5.toNat_lt;have h6:=b6.toNat_lt;have h7:=b7.toNat_lt;have e0:IntKind.u64.wrap (IntKind.u64.wrap (b0.toNat:Int)*72057594037927936)=((b0.toNat*72057594037927936:Nat):Int):=F4 b0 72057594037927936 (by decide);have e1:IntKind.u64.wrap (IntKind.u64.wrap (b1.toNat:Int)*281474976710656)=((b1.toNat*281474976710656:Nat):Int):=F4 b1 281474976710656 (by decide);have e2:IntKind.u64.wrap (IntKind.u64.wrap (b2.toNat:Int)*1099511627776)=((b2.toNat*1099511627776:Nat):Int):=F4 b2 1099511627776 (by decide);have e3:IntKind.u64.wrap (IntKind.u64.wrap (b3.toNat:Int)*4294967296)=((b3.toNat*4294967296:Nat):Int):=F4 b3 4294967296 (by decide);have e4:IntKind.u64.wrap (IntKind.u64.wrap (b4.toNat:Int)*16777216)=((b4.toNat*16777216:Nat):Int):=F4 b4 16777216 (by decide);have e5:IntKind.u64.wrap (IntKind.u64.wrap (b5.toNat:Int)*65536)=((b5.toNat*65536:Nat):Int):=F4 b5 65536 (by decide);have e6:IntKind.u64.wrap (IntKind.u64.wrap (b6.toNat:Int)*256)=((b6.toNat*256:Nat):Int):=F4 b6 256 (by decide);have e7:=Rl b7;rw[e0,e1,e2,e3,e4,e5,e6,e7];rw[En _ _ 56 (by omega) (by omega) (by omega)];rw[En _ _ 48 (by omega) (by omega) (by omega)];rw[En _ _ 40 (by omega) (by omega) (by omega)];rw[En _ _ 32 (by omega) (by omega) (by omega)];rw[En _ _ 24 (by omega) (by omega) (by omega)];rw[En _ _ 16 (by omega) (by omega) (by omega)];rw[En _ _ 8 (by omega) (by omega) (by omega)];simp[Et,Oa,Dd];omega
theorem Ob(b o n c:Nat)(b0 b1 b2 b3 b4 b5 b6 b7:UInt8)(w:World)(hn:8≤n)(hm:n≤9223372036854775807)(c0:w.cell? ⟨b,o,none⟩=some (B b0))(c1:w.cell? ⟨b,o+1,none⟩=some (B b1))(c2:w.cell? ⟨b,o+2,none⟩=some (B b2))(c3:w.cell? ⟨b,o+3,none⟩=some (B b3))(c4:w.cell? ⟨b,o+4,none⟩=some (B b4))(c5:w.cell? ⟨b,o+5,none⟩=some (B b5))(c6:w.cell? ⟨b,o+6,none⟩=some (B b6))(c7:w.cell? ⟨b,o+7,none⟩=some (B b7)):Calls Tryz.prog 125 #[.slice (some ⟨b,o,none⟩) n c] w (Fc w (Et [b0,b1,b2,b3,b4,b5,b6,b7])):=by
 have h8:(8:Int)≤(n:Int):=by omega
 have d8:decide ((8:Int)≤(n:Int))=true:=by simp;omega
 go_enter Tryz.func125,Tryz.ntmps125;go_wp2
 go_quiet (fail)
 go_wp2;go_ret;exact⟨NX (Tv b0 b1 b2 b3 b4 b5 b6 b7),BN (AC _ _) _⟩
theorem Tw{l:List UInt8}(h:8≤l.length):∃b0 b1 b2 b3 b4 b5 b6 b7 r,l=b0::b1::b2::b3::b4::b5::b6::b7::r:=by
 match l,h with
 |b0::b1::b2::b3::b4::b5::b6::b7::r,_=>exact⟨b0,b1,b2,b3,b4,b5,b6,b7,r,rfl⟩
theorem Ld(b0 b1 b2 b3 b4 b5 b6 b7:UInt8)(r:List UInt8):Et (b0::b1::b2::b3::b4::b5::b6::b7::r)=Et [b0,b1,b2,b3,b4,b5,b6,b7]:=by
 simp[Et,Oa]
theorem Ap:(Tryz.prog.info? 24).map (·.size)=some 8:=by kernel_rfl
theorem Rm{l:List UInt8}(h:l.length=8):∃n:Nm,n.bytes=l:=by
 match l,h with
 |[b0,b1,b2,b3,b4,b5,b6,b7],_=>exact⟨⟨b0,b1,b2,b3,b4,b5,b6,b7⟩,rfl⟩
theorem Le(l:List UInt8):(Oa l).length=8:=by simp[Oa]
theorem Mv(A:Option Addr)(c:Nat)(l:List UInt8)(w:World)(hr:Rd w w.heap.size A (l.map B))(hl:l.length<8):Calls Tryz.prog 125 #[.slice A l.length c] w (Fc w (Et l)):=by
 obtain⟨xs,hxs⟩:∃xs,xs=l.map B:=⟨_,rfl⟩;have h1:∀u∈xs,u.oneCell'=true:=by rw[hxs];exact fun u hu=>B3 hu
 rw[←hxs]at hr;have Hx:=AA hxs;clear hxs;obtain⟨n,hn⟩:=Rm (Le l);have Hn:=AA hn;clear hn;have Hl:=AA hl;have d8:decide ((8:Int)≤(l.length:Int))=false:=by simp;omega
 have hi:(l.length:Int)<8:=by omega
 have hmin:min 8 l.length=l.length:=by omega
 have Hmin:=AA hmin;clear hmin;clear hl;go_enter Tryz.func125,Tryz.ntmps125;go_wp2_with (refine wpList_copy_splice rfl (.tmp 53) (.tmp 54) _ _ rfl 5 Tryz.underlying60 (by kernel_rfl) _ _ _ _ _ _ rfl rfl w.heap.size 0 [.int .u8 0,.int .u8 0,.int .u8 0,.int .u8 0,.int .u8 0,.int .u8 0,.int .u8 0,.int .u8 0] 24 ?h1 xs ?h2 ?h3 ?h4 h1 w.heap.size w ?h5 (AB _) ?_)
 case h1=>exact heap_alloc_new w _
 case h2=>
  have:=Hl.out;have h2:xs.length=l.length:=by rw[Hx.out];simp
  rw[h2];exact(Nat.min_eq_left (by omega)).symm
 case h3=>
  intro hp;obtain⟨b,o,rfl,hb,hc⟩:=hr.cells (by rintro rfl;simp at hp);refine⟨_,rfl,fun j v hv=>?_⟩;rw[Addr.add_mid,World.cell?_alloc_lt _ _ _ hb];exact hc j v hv
 case h4=>
  have:=Hl.out;have h2:xs.length=l.length:=by rw[Hx.out];simp
  simp[h2];omega
 case h5=>exact(AC _ _).alloc (AB _) _
 intro w1 hg hb;have hB1:Blk w1 w.heap.size 24 #[B n.b0,B n.b1,B n.b2,B n.b3,B n.b4,B n.b5,B n.b6,B n.b7]:=by
  have e:(splice [Value.int .u8 0,.int .u8 0,.int .u8 0,.int .u8 0,.int .u8 0,.int .u8 0,.int .u8 0,.int .u8 0] 0 xs)=[B n.b0,B n.b1,B n.b2,B n.b3,B n.b4,B n.b5,B n.b6,B n.b7]:=by
   have h3:n.bytes.map B=[B n.b0,B n.b1,B n.b2,B n.b3,B n.b4,B n.b5,B n.b6,B n.b7]:=rfl;rw[←h3,Hn.out,Hx.out];have:=Hl.out
   match l,this with
   |[],_=>rfl
   |[a],_=>rfl
   |[a,b],_=>rfl
   |[a,b,c],_=>rfl
   |[a,b,c,d],_=>rfl
   |[a,b,c,d,e],_=>rfl
   |[a,b,c,d,e,f],_=>rfl
   |[a,b,c,d,e,f,g],_=>rfl
  have h4:=hg.out;rw[e]at h4;exact h4
 clear hg;go_wp2_with (refine FF rfl 24 (.tmp 3) rfl w.heap.size 0 rfl #[B n.b0,B n.b1,B n.b2,B n.b3,B n.b4,B n.b5,B n.b6,B n.b7] _ (fun j u hj=>by rw[Nat.zero_add,hB1.cell];exact hj) Tryz.underlying24 rfl Ap ?_)
 refine(F0 n _).mono ?_;rintro e w2 ⟨rfl,hb2⟩;go_wp2;go_ret;refine⟨?_,hb.trans (hb2.mono hb.size)⟩;have e:Et l=Dd n.bytes:=by rw[Hn.out];rfl
 rw[e];rfl
theorem QP(A:Option Addr)(c:Nat)(l:List UInt8)(w:World)(hr:Rd w w.heap.size A (l.map B))(hm:l.length≤9223372036854775807):Calls Tryz.prog 125 #[.slice A l.length c] w (Fc w (Et l)):=by
 by_cases h:l.length<8
 ·exact Mv A c l w hr h
 ·obtain⟨b0,b1,b2,b3,b4,b5,b6,b7,r,rfl⟩:=Tw (show 8≤l.length by omega);obtain⟨b,o,rfl,_,hc⟩:=hr.cells (by simp);rw[Ld];exact Ob b o _ c b0 b1 b2 b3 b4 b5 b6 b7 w (by simp) hm (hc 0 _ rfl) (hc 1 _ rfl) (hc 2 _ rfl) (hc 3 _ rfl) (hc 4 _ rfl) (hc 5 _ rfl) (hc 6 _ rfl) (hc 7 _ rfl)
end
end Go.Proofs.YtadllffeoibelaaGreat
