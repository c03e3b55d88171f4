/-
  Parts of the proof. No condition.
-/
import Derived.Test.YtadllffeoibelaaGreatS1
import Derived.LoopN
import Derived.Laws.CopyOwn
import Derived.RegionCalls
import Derived.Deep.RegionWith
open Go.Proofs.Tryz
namespace Go.Proofs.YtadllffeoibelaaGreat
set_option maxRecDepth 100000
set_option maxHeartbeats 32000000
set_option linter.all false
section
open Go.RowKit
def Dh(l:List UInt8):Nat:=l.foldl (fun v b=>v*256+b.toNat) 0
theorem Iv:∀(l:List UInt8) (v:Nat),l.foldl (fun v b=>v*256+b.toNat) v<(v+1)*256^l.length
 |[],v=>by simp
 |b::r,v=>by
  have hb:=b.toNat_lt;have h:=Iv r (v*256+b.toNat);rw[List.foldl_cons,Ag,Nat.pow_succ];refine Nat.lt_of_lt_of_le h ?_;rw[Nat.mul_comm (256^r.length) 256,<-Nat.mul_assoc];exact Nat.mul_le_mul_right _ (by omega)
theorem Lf(l:List UInt8):Dh l<256^l.length:=by
 have:=Iv l 0;simpa[Dh]using this
theorem Rf(a b k:Nat)(hb:b<2^k)(h:2^k*a+b<18446744073709551616):bits .or .u64 ((2^k*a:Nat):Int) (b:Int)=((2^k*a+b:Nat):Int):=by
 show IntKind.u64.wrap ((BitVec.ofInt 64 ((2^k*a:Nat):Int)|||BitVec.ofInt 64 (b:Int)).toNat:Int)=_;rw[BitVec.toNat_or,BitVec.ofInt_natCast,BitVec.ofInt_natCast,BitVec.toNat_ofNat,BitVec.toNat_ofNat,Nat.mod_eq_of_lt (by omega),Nat.mod_eq_of_lt (by omega),<-Nat.two_pow_add_eq_or_of_lt hb,IntKind.wrap_u64];omega
theorem Eb(v:Nat)(b:UInt8)(hv:v<72057594037927936):bits .or .u64 (IntKind.u64.wrap ((v:Int)*256)) (IntKind.u64.wrap (b.toNat:Int))=((v*256+b.toNat:Nat):Int):=by
 have hb:=b.toNat_lt;have e1:IntKind.u64.wrap ((v:Int)*256)=((2^8*v:Nat):Int):=by rw[IntKind.wrap_u64];omega
 have e2:IntKind.u64.wrap (b.toNat:Int)=((b.toNat:Nat):Int):=by rw[IntKind.wrap_u64];omega
 rw[e1,e2,Rf v b.toNat 8 (by omega) (by omega)];omega
theorem TM(b:UInt8):bits .or .u64 0 (IntKind.u64.wrap (b.toNat:Int))=((b.toNat:Nat):Int):=by
 have h:=Eb 0 b (by omega);have z:IntKind.u64.wrap (((0:Nat):Int)*256)=0:=by rw[IntKind.wrap_u64];rfl
 rw[z,Nat.zero_mul,Nat.zero_add]at h;exact h
theorem Rg(b0 b1 b2 b3 b4 b5 b6 b7:UInt8):bits .or .u64 (IntKind.u64.wrap (bits .or .u64 (IntKind.u64.wrap (bits .or .u64 (IntKind.u64.wrap (bits .or .u64 (IntKind.u64.wrap (bits .or .u64 (IntKind.u64.wrap (bits .or .u64 (IntKind.u64.wrap (bits .or .u64 (IntKind.u64.wrap (bits .or .u64 0 (IntKind.u64.wrap (b0.toNat:Int))*256)) (IntKind.u64.wrap (b1.toNat:Int))*256)) (IntKind.u64.wrap (b2.toNat:Int))*256)) (IntKind.u64.wrap (b3.toNat:Int))*256)) (IntKind.u64.wrap (b4.toNat:Int))*256)) (IntKind.u64.wrap (b5.toNat:Int))*256)) (IntKind.u64.wrap (b6.toNat:Int))*256)) (IntKind.u64.wrap (b7.toNat:Int))=((Dh [b0,b1,b2,b3,b4,b5,b6,b7]:Nat):Int):=by
 have h0:=b0.toNat_lt;have h1:=b1.toNat_lt;have h2:=b2.toNat_lt;have h3:=b3.toNat_lt;have h4:=b4.toNat_lt;have h5:=b5.toNat_lt;have h6:=b6.toNat_lt;rw[TM,Eb _ b1 (by omega),Eb _ b2 (by omega),Eb _ b3 (by omega),Eb _ b4 (by omega),Eb _ b5 (by omega),Eb _ b6 (by omega),Eb _ b7 (by omega)];simp[Dh]
theorem ix0(a b c d e f g h:Value)(w:World):(Instr.index 24 (.agg #[a,b,c,d,e,f,g,h]) (.int .i64 0)).run prog w= .ok a w:=by kernel_rfl
theorem ix1(a b c d e f g h:Value)(w:World):(Instr.index 24 (.agg #[a,b,c,d,e,f,g,h]) (.int .i64 1)).run prog w= .ok b w:=by kernel_rfl
theorem ix2(a b c d e f g h:Value)(w:World):(Instr.index 24 (.agg #[a,b,c,d,e,f,g,h]) (.int .i64 2)).run prog w= .ok c w:=by kernel_rfl
theorem ix3(a b c d e f g h:Value)(w:World):(Instr.index 24 (.agg #[a,b,c,d,e,f,g,h]) (.int .i64 3)).run prog w= .ok d w:=by kernel_rfl
theorem ix4(a b c d e f g h:Value)(w:World):(Instr.index 24 (.agg #[a,b,c,d,e,f,g,h]) (.int .i64 4)).run prog w= .ok e w:=by kernel_rfl
theorem ix5(a b c d e f g h:Value)(w:World):(Instr.index 24 (.agg #[a,b,c,d,e,f,g,h]) (.int .i64 5)).run prog w= .ok f w:=by kernel_rfl
theorem ix6(a b c d e f g h:Value)(w:World):(Instr.index 24 (.agg #[a,b,c,d,e,f,g,h]) (.int .i64 6)).run prog w= .ok g w:=by kernel_rfl
theorem ix7(a b c d e f g h:Value)(w:World):(Instr.index 24 (.agg #[a,b,c,d,e,f,g,h]) (.int .i64 7)).run prog w= .ok h w:=by kernel_rfl
attribute [local go_sem] ix0 ix1 ix2 ix3 ix4 ix5 ix6 ix7
def GO(w:World)(x:Nat)(e:Ending)(w':World):Prop:=e= .returned (.int .u64 (x:Int))/\Wx w w'
theorem Gf(n:Nm)(w:World):Calls prog 182 #[n.val] w (GO w (Dh n.bytes)):=by
 go_enter func182,ntmps182;go_wp2;refine wp_loop_rounds 9 ?_
 iterate 9 (rw[rounds_succ];go_wp2)
 go_ret;exact⟨Oa (Rg n.b0 n.b1 n.b2 n.b3 n.b4 n.b5 n.b6 n.b7),(AC _ _).alloc (AB _) _⟩
def bt(v k:Nat):UInt8:=UInt8.ofNat (v/256^k)
def ofN(v:Nat):Nm:=⟨bt v 7,bt v 6,bt v 5,bt v 4,bt v 3,bt v 2,bt v 1,bt v 0⟩
theorem Gg(v k p:Nat)(hp:256^k=p):B (bt v k)= .int .u8 ((v:Int)/(p:Int)%256):=by
 subst hp;rw[Value.int.injEq];refine⟨rfl,?_⟩;simp[bt]
theorem TN(v:Nat):B (bt v 0)= .int .u8 ((v:Int)%256):=by
 simp[bt]
theorem TO(v:Nat):(ofN v).val= .agg #[.int .u8 ((v:Int)/72057594037927936%256),.int .u8 ((v:Int)/281474976710656%256),.int .u8 ((v:Int)/1099511627776%256),.int .u8 ((v:Int)/4294967296%256),.int .u8 ((v:Int)/16777216%256),.int .u8 ((v:Int)/65536%256),.int .u8 ((v:Int)/256%256),.int .u8 ((v:Int)%256)]:=by
 simp only[Nm.val,ofN];rw[Gg v 7 72057594037927936 (by decide),Gg v 6 281474976710656 (by decide),Gg v 5 1099511627776 (by decide),Gg v 4 4294967296 (by decide),Gg v 3 16777216 (by decide),Gg v 2 65536 (by decide),Gg v 1 256 (by decide),TN];rfl
def BW(w:World)(n:Nm)(e:Ending)(w':World):Prop:=e= .returned n.val/\Wx w w'
theorem U2(v:Nat)(w:World):Calls prog 127 #[.int .u64 (v:Int)] w (BW w (ofN v)):=by
 go_enter func127,ntmps127;go_wp2;refine bodyPost_ret (results_cell_row (g:=w.heap.size) rfl _ _ _ _ _ _ rfl (heap_alloc_new w _) underlying24 rfl (by kernel_rfl)) rfl ⟨?_,(AC _ _).alloc (AB _) _⟩;rw[TO]
theorem Bz:(prog.info? 5).map (fun i=>(i.zero,i.size,i.bytes))=some (some (.int .u8 0),1,1):=by kernel_rfl
def CX(w:World)(e size n:Nat)(xs:List Value)(en:Ending)(w':World):Prop:=
 ∃A c,en= .returned (.slice A n c)/\w'.ownsRow w.heap.size e size (.slice A n c) n xs/\Wx w w'
theorem Ot(A:Option Addr)(len c n:Nat)(xs:List Value)(w:World)(hl:xs.length=len)(hr:Rd w w.heap.size A xs)(h1:∀u∈xs,u.oneCell'=true)(xQ:len<=140737488351232)(hn:n<=8):Calls prog 119 #[.slice A len c,.int .i64 n] w (CX w 5 1 len xs):=by
 obtain⟨i0,hi,hz0,hz1,hz2⟩:=info_parts Bz;have hmk:∀W:World,(Instr.makeSlice 60 (.int .i64 (len:Int)) (.int .i64 ((len:Int)+(n:Int)))).run prog W= .ok (.slice (some ⟨W.heap.size,0,none⟩) len (len+n)) (W.alloc (.cells (madeCells #[.int .u8 0] (len+n)) 5)):=fun W=>by
  have:=run_make (P:=prog) W 60 5 i0 (.int .u8 0) underlying60 hi hz0 .i64 .i64 len (len+n) (by omega) (by omega) (by rw[hz2];omega) (by omega);rw[this,hz1];simp only[Int.toNat_natCast,Nat.mul_one,Value.cells,show((len:Int)+(n:Int)).toNat=len+n from by omega]
 have Hl:=AA hl;clear hl;go_enter func119,ntmps119;go_wp2_with (refine wpList_copy_splice rfl (.tmp 13) (.tmp 14) _ _ rfl 5 underlying60 (by kernel_rfl) _ _ _ _ _ _ rfl rfl w.heap.size 0 (madeCells #[.int .u8 0] (len+n)).toList 5 ?h1 xs ?h2 ?h3 ?h4 h1 w.heap.size w ?h5 (AB _) ?_)
 case h1=>exact heap_alloc_new w _
 case h2=>have:=Hl.out;simp;omega
 case h3=>
  intro hp;obtain⟨b,o,rfl,hb,hc⟩:=hr.cells (by rintro rfl;simp at hp);refine⟨_,rfl,fun j v hv=>?_⟩;rw[Addr.add_mid,World.cell?_alloc_lt _ _ _ hb];exact hc j v hv
 case h4=>have:=Hl.out;simp[size_madeCells];omega
 case h5=>exact(AC _ _).alloc (AB _) _
 intro w1 hg hb;go_wp2;go_ret;refine⟨_,_,rfl,⟨by have:=Hl.out;simp;omega,.inr ⟨_,_,_,rfl,AB _,hg.out,by omega,by unfold maxLen;omega,?_,?_⟩⟩,hb⟩
 ·have:=Hl.out;simp[splice,size_madeCells];omega
 ·have:=Hl.out;subst this;simp[splice]
theorem Rh(A:Option Addr)(len c:Nat)(x:Int)(xs:List Value)(w:World)(hl:xs.length=len)(hr:Rd w w.heap.size A xs)(h1:∀u∈xs,u.oneCell'=true)(xQ:len<=140737488351232):Calls prog 80 #[.slice A len c,.int .u64 x,.int .i64 0] w (CX w 5 1 len xs):=by
 have Hl:=AA hl;clear hl;have HR:=AA hr;clear hr;have H1:=AA h1;clear h1;go_enter func80,ntmps80;go_wp2_with fail
 refine(Ot A len c 0 xs _ Hl.out HR.out H1.out xQ (by omega)).mono ?_;rintro e w1 ⟨A1,c1,rfl,xB,hb⟩;go_wp2_with fail
 refine wp_loop_rounds 1 ?_;rw[rounds_succ];go_wp2;go_ret;exact⟨A1,c1,rfl,xB,hb⟩
def Be(v:Nat)(k:Nat):UInt8:=UInt8.ofNat (v/256^k)
theorem TP(v:Nat):B (Be v 0)= .int .u8 ((v:Int)%256):=by
 simp[Be]
theorem TQ(v:Nat):B (Be v 1)= .int .u8 ((v:Int)/256%256):=by
 simp[Be]
theorem Hj{u x:Value}(h:u∈[x])(hx:x.oneCell'=true):u.oneCell'=true:=by
 simp at h;subst h;exact hx
theorem Jl(A:Option Addr)(len c v:Nat)(xs:List Value)(w:World)(hl:xs.length=len)(hr:Rd w w.heap.size A xs)(h1:∀u∈xs,u.oneCell'=true)(xQ:len<=1000000):Calls prog 80 #[.slice A len c,.int .u64 v,.int .i64 2] w (CX w 5 1 (len+2) (xs++[B (Be v 1),B (Be v 0)])):=by
 have Hl:=AA hl;clear hl;have HR:=AA hr;clear hr;have H1:=AA h1;clear h1;go_enter func80,ntmps80;go_wp2_with fail
 refine(Ot A len c 2 xs _ Hl.out HR.out H1.out (by omega) (by omega)).mono ?_;rintro e w1 ⟨A1,c1,rfl,xB,hb⟩;go_wp2_with fail
 refine wp_loop_rounds 3 ?_;rw[rounds_succ];go_wp2_with (at_builtin;refine Ar rfl (.tmp 21) (.tmp 27) _ rfl w.heap.size 5 (.int .u8 0) 1 1 underlying60 Bz rfl (by decide) _ len xs rfl (xB.alloc _) (w1.heap.size+1) _ 1 1 [B (Be v 1)] rfl rfl ?r1 ?r2 ?r3 ?r4 ?r5 ?_)
 case r1=>rw[TQ];exact Rd.one _ _ _
 case r2=>exact fun u hu=>Hj hu rfl
 case r3=>omega
 case r4=>unfold maxLen;omega
 case r5=>have:=hb.size;simp;omega
 intro v2 w2 xG hg2 hAY;have hb2:Wx w w2:=BO (hb.alloc hb.size _) (xB.alloc _) hg2;clear hAY hg2;go_wp2;rw[rounds_succ];go_wp2_with (at_builtin;refine Ar rfl (.tmp 21) (.tmp 27) _ rfl w.heap.size 5 (.int .u8 0) 1 1 underlying60 Bz rfl (by decide) _ (len+1) (xs++[B (Be v 1)]) rfl (xG.alloc _) (w2.heap.size+1) _ 1 1 [B (Be v 0)] rfl rfl ?q1 ?q2 ?q3 ?q4 ?q5 ?_)
 case q1=>rw[TP];exact Rd.one _ _ _
 case q2=>exact fun u hu=>Hj hu rfl
 case q3=>omega
 case q4=>unfold maxLen;omega
 case q5=>have:=hb2.size;simp;omega
 intro v3 w3 xC hg3 zO;have hb3:Wx w w3:=BO (hb2.alloc hb2.size _) (xG.alloc _) hg3;clear zO hg3;go_wp2;rw[rounds_succ];go_wp2;go_ret;obtain⟨A3,c3,rfl⟩:=BD xC;exact⟨A3,c3,rfl,by simpa using xC,hb3⟩
theorem Ri(A:Option Addr)(len c:Nat)(x:Int)(xs:List Value)(w:World)(hl:xs.length=len)(hr:Rd w w.heap.size A xs)(h1:∀u∈xs,u.oneCell'=true)(xQ:len<=1000000)(hx:0<=x):Calls prog 80 #[.slice A len c,.int .u64 x,.int .i64 2] w (CX w 5 1 (len+2) (xs++[B (Be x.toNat 1),B (Be x.toNat 0)])):=by
 obtain⟨n,rfl⟩:=Int.eq_ofNat_of_zero_le hx;exact Jl A len c n xs w hl hr h1 xQ
theorem B7{u:Value}{l:List UInt8}(h:u∈l.map B):u.oneCell'=true:=by
 obtain⟨b,_,rfl⟩:=List.mem_map.1 h;rfl
def Dt(n:Int):UInt8:=UInt8.ofNat n.toNat
def Nl(v:Vt):List UInt8:=[Dt v.kind,Dt v.slot,Dt v.round,Dt v.choice,Dt v.signer]
def Nn(v:Vt):List UInt8:=[Dt v.kind,Dt v.slot,Dt v.round,Dt v.choice,Dt v.signer,Be v.support.toNat 1,Be v.support.toNat 0]++v.parent.bytes++v.value.bytes
theorem C6{n:Int}(h0:0<=n)(h1:n<=255):B (Dt n)= .int .u8 n:=by
 show Value.int .u8 _=_;rw[Value.int.injEq];refine⟨rfl,?_⟩;simp[Dt];omega
theorem AW.bounds{v:Vt}(h:AW v):(0<=v.kind/\v.kind<=7)/\(0<=v.slot/\v.slot<=9)/\(0<=v.round/\v.round<=12)/\(0<=v.choice/\v.choice<=2)/\(0<=v.signer/\v.signer<=9)/\(0<=v.support/\v.support<=1023):=by
 obtain⟨h1,h2,_,h4,h5,h6,h7,h8⟩:=h;omega
def TR(w:World)(e size n:Nat)(xs:List Value)(en:Ending)(w':World):Prop:=
 ∃A c,en= .returned (.tuple #[.slice A n c,.bool true])/\w'.ownsRow w.heap.size e size (.slice A n c) n xs/\Wx w w'
def Rj(w:World)(en:Ending)(w':World):Prop:=en= .returned (.tuple #[.slice none 0 0,.bool false])/\Wx w w'
theorem IZ(v:Vt)(w:World)(hv:v.ok)(hy:AW v):Calls prog 49 #[v.val] w fun e w'=>e= .returned (.bool true)/\Wx w w':=
 (De v w hv).mono fun _ _ h=>⟨by rw[h.1,decide_eq_true hy],h.2⟩
theorem Rk(v:Vt)(w:World)(hv:v.ok)(hy:¬AW v):Calls prog 49 #[v.val] w fun e w'=>e= .returned (.bool false)/\Wx w w':=
 (De v w hv).mono fun _ _ h=>⟨by rw[h.1,decide_eq_false hy],h.2⟩
theorem Ia:(prog.info? 46).map (·.size)=some 22:=by kernel_rfl
theorem Rl(v:Vt)(w:World)(hv:v.ok)(hy:AW v):Calls prog 165 #[v.val] w (TR w 5 1 23 ((Nn v).map B)):=by
 obtain⟨⟨b1,b1'⟩,⟨b2,b2'⟩,⟨b3,b3'⟩,⟨b4,b4'⟩,⟨b5,b5'⟩,⟨b6,b6'⟩⟩:=hy.bounds;have Hy:=AA hy;clear hy;have hmk:∀W:World,(Instr.makeSlice 60 (.int .i64 0) (.int .i64 23)).run prog W= .ok (.slice (some ⟨W.heap.size,0,none⟩) 0 23) (W.alloc (.cells (Array.replicate 23 (.int .u8 0)) 5)):=fun W=>by kernel_rfl
 go_enter func165,ntmps165;go_wp2_with (refine wpList_load_row rfl 46 _ rfl w.heap.size rfl 46 v.cells (0,0) _ (heap_alloc_new w _) underlying46 rfl Ia ?_)
 refine(IZ v _ hv Hy.out).mono ?_;rintro e w1 ⟨rfl,hb⟩;have hB1:Blk w1 w.heap.size 46 v.cells:=(Blk.new w _ _).below hb (by simp);have hb1:Wx w w1:=((AC _ _).alloc (AB _) _).trans (hb.mono (by simp));clear hb;have hlt:w.heap.size<w1.heap.size:=hB1.lt;have c0:w1.cell? ⟨w.heap.size,0,none⟩=some (I v.kind):=hB1.cell 0;have c1:w1.cell? ⟨w.heap.size,1,none⟩=some (I v.slot):=hB1.cell 1;have c2:w1.cell? ⟨w.heap.size,2,none⟩=some (I v.round):=hB1.cell 2;have c3:w1.cell? ⟨w.heap.size,3,none⟩=some (I v.choice):=hB1.cell 3;have c4:w1.cell? ⟨w.heap.size,4,none⟩=some (I v.signer):=hB1.cell 4;have c5:w1.cell? ⟨w.heap.size,5,none⟩=some (I v.support):=hB1.cell 5;go_wp2_with (at_builtin;refine Ar rfl (.tmp 9) (.tmp 25) _ rfl w.heap.size 5 (.int .u8 0) 1 1 underlying60 Bz rfl (by decide) (.slice (some ⟨w1.heap.size,0,none⟩) 0 23) 0 [] rfl ?r0 (w1.heap.size+2) _ 5 5 ((Nl v).map B) rfl rfl ?r1 ?r2 ?r3 ?r4 ?r5 ?_)
 case r0=>exact World.ownsRow.alloc (World.ownsRow_made _ _ 23 hb1.size (by unfold maxLen;omega) (by simp)) _
 case r1=>
  have h:=Rd.of_blk (Blk.new (w1.alloc (Obj.cells (Array.replicate 23 (Value.int IntKind.u8 0)) 5)) 5 #[B (Dt v.kind),B (Dt v.slot),B (Dt v.round),B (Dt v.choice),B (Dt v.signer)]) 0 5;rw[C6 b1 (by omega),C6 b2 (by omega),C6 b3 (by omega),C6 b4 (by omega),C6 b5 (by omega)]at h;simp only[Nl,List.map_cons,List.map_nil,C6 b1 (show v.kind<=255 by omega),C6 b2 (show v.slot<=255 by omega),C6 b3 (show v.round<=255 by omega),C6 b4 (show v.choice<=255 by omega),C6 b5 (show v.signer<=255 by omega)];simpa using h
 case r2=>exact fun u hu=>B7 hu
 case r3=>omega
 case r4=>unfold maxLen;omega
 case r5=>have:=hb1.size;simp;omega
 intro v2 w2 xG hg2 hAY;have hB2:Blk w2 w.heap.size 46 v.cells:=((hB1.alloc _).alloc _).kept hg2 (by simp[Value.ownBlock];omega);have hb2:Wx w w2:=(((hb1.alloc hb1.size _).alloc (by have:=hb1.size;simp;omega) _)).grown hg2 (by have:=hb1.size;simp;omega) (by simp[Value.ownBlock];have:=hb1.size;omega);clear hg2 hAY c0 c1 c2 c3 c4 c5 hlt hB1 hb1 hmk;obtain⟨A2,c2,rfl⟩:=BD xG;have c5:w2.cell? ⟨w.heap.size,5,none⟩=some (I v.support):=hB2.cell 5;go_wp2_with fail
 refine(Ri A2 5 c2 v.support _ w2 (by simp[Nl]) (Rd.of_own xG) (fun u hu=>B7 hu) (by omega) b6).mono ?_;rintro e w3 ⟨A3,c3,rfl,xC,zP⟩;have hB3:Blk w3 w.heap.size 46 v.cells:=hB2.below zP hB2.lt;have hb3:Wx w w3:=hb2.trans (zP.mono hb2.size);replace xC:=BS xC hb2.size;clear zP hB2 hb2 xG c5;have hCJ:=hB3.lt;go_wp2_with (at_builtin;refine Ar rfl (.tmp 32) (.tmp 34) _ rfl w.heap.size 5 (.int .u8 0) 1 1 underlying60 Bz rfl (by decide) _ 7 ((Nl v).map B++[B (Be v.support.toNat 1),B (Be v.support.toNat 0)]) rfl ?q0 (w3.heap.size) _ 8 8 (v.parent.bytes.map B) rfl rfl ?q1 ?q2 ?q3 ?q4 ?q5 ?_)
 case q0=>exact xC
 case q1=>exact Rd.of_blk hB3 6 8
 case q2=>exact fun u hu=>B7 hu
 case q3=>omega
 case q4=>unfold maxLen;omega
 case q5=>exact hb3.size
 intro v4 w4 xX hg4 hDb;have hB4:Blk w4 w.heap.size 46 v.cells:=hB3.kept hg4 (CO xC hB3 (by decide));have hb4:Wx w w4:=BO hb3 xC hg4;clear hg4 hDb hB3 hb3 xC hCJ;have hlt4:=hB4.lt;go_wp2_with (at_builtin;refine Ar rfl (.tmp 36) (.tmp 38) _ rfl w.heap.size 5 (.int .u8 0) 1 1 underlying60 Bz rfl (by decide) _ (7+8) (((Nl v).map B++[B (Be v.support.toNat 1),B (Be v.support.toNat 0)])++v.parent.bytes.map B) rfl ?p0 (w4.heap.size) _ 8 8 (v.value.bytes.map B) rfl rfl ?p1 ?p2 ?p3 ?p4 ?p5 ?_)
 case p0=>exact xX
 case p1=>exact Rd.of_blk hB4 14 8
 case p2=>exact fun u hu=>B7 hu
 case p3=>omega
 case p4=>unfold maxLen;omega
 case p5=>exact hb4.size
 intro v5 w5 xW hg5 hat5;have hb5:Wx w w5:=BO hb4 xX hg5;clear hg5 hat5 hB4 hb4 xX hlt4;obtain⟨A5,c5,rfl⟩:=BD xW;go_wp2;go_ret2;refine⟨A5,c5,rfl,?_,hb5⟩;have e:(Nn v).map B=((((Nl v).map B++[B (Be v.support.toNat 1),B (Be v.support.toNat 0)])++v.parent.bytes.map B)++v.value.bytes.map B):=by simp[Nn,Nl]
 rw[e];exact xW
theorem Fr{P:Program}{ops:Array Oper}{rest:List Oper}{o:Oper}{a:Act}{w:World}{Q:Exit->Act->World->Prop}(hgd:o.guard=none)(ty:TypeId)(x:Operand)(ho:o.op= .load ty x)(g off:Nat)(hx:a.eval x= .pointer (some ⟨g,off,none⟩))(cs:Array Value)(d:TypeDesc)(hc:∀j u,cs[j]? =some u->w.cell? ⟨g,off+j,none⟩=some u)(hu:P.underlying ty=some d)(hd:d.isRow=true)(hi:(P.info? ty).map (·.size)=some cs.size)(h:wpList P ops Q rest (a.put o.dst (.agg cs)) w):wpList P ops Q (o::rest) a w:=by
 have e:cs.toList.toArray=cs:=by simp
 refine wpList_load_mid hgd ty x ho g off hx cs.toList d ?_ hu hd (by simpa using hi) (by rw[e];exact h);intro j u hj;exact hc j u (by simpa using hj)
structure Sg where
 vote:Vt
 sig:List UInt8
 A:Option Addr
 cap:Nat
namespace Sg
def cells(s:Sg):Array Value:=s.vote.cells.push (.slice s.A s.sig.length s.cap)
abbrev val(s:Sg):Value:=.agg s.cells
theorem size_cells(s:Sg):s.cells.size=23:=by simp[cells]
theorem cell_vote(s:Sg)(j:Nat)(u:Value)(h:s.vote.cells[j]? =some u):s.cells[j]? =some u:=by
 have hj:j<s.vote.cells.size:=by
  rcases Nat.lt_or_ge j s.vote.cells.size with h1|h1
  ·exact h1
  ·rw[Array.getElem?_eq_none h1]at h;cases h
 unfold cells;rw[Array.getElem?_push_lt hj,<-h,Array.getElem?_eq_getElem hj]
theorem cell_sig(s:Sg):s.cells[22]? =some (.slice s.A s.sig.length s.cap):=by
 unfold cells;rw[show 22=s.vote.cells.size from rfl,Array.getElem?_push_size]
end Sg
def Jm(w:World)(B':Nat)(s:Sg):Prop:=s.vote.ok/\Rd w B' s.A (s.sig.map B)/\s.sig.length<=140737488351232
theorem Jm.below{w w':World}{B':Nat}{s:Sg}(h:Jm w B' s)(hb:Below B' w w'):Jm w' B' s:=⟨h.1,h.2.1.below hb,h.2.2⟩
theorem Jm.more{w:World}{B' B'':Nat}{s:Sg}(h:Jm w B' s)(hb:B'<=B''):Jm w B'' s:=⟨h.1,h.2.1.more hb,h.2.2⟩
def QA(l:List UInt8):List UInt8:=(l++[0,0,0,0,0,0,0,0]).take 8
def Fg(l:List UInt8):Nat:=Dh (QA l)
theorem FQ(x y k:Nat)(hx:x%2^k=0)(hy:y<2^k)(h:x+y<18446744073709551616):bits .or .u64 (x:Int) (y:Int)=((x+y:Nat):Int):=by
 have e:x=2^k*(x/2^k):=by have:=Nat.div_add_mod x (2^k);omega
 have:=Rf (x/2^k) y k hy (by rw[<-e];exact h);rw[<-e]at this;exact this
theorem Gh(b:UInt8)(p:Nat)(hp:256*p<=18446744073709551616):IntKind.u64.wrap (IntKind.u64.wrap (b.toNat:Int)*(p:Int))=((b.toNat*p:Nat):Int):=by
 have hb:=b.toNat_lt;have h1:b.toNat*p<256*p∨p=0:=by
  rcases Nat.eq_zero_or_pos p with h|h
  ·exact .inr h
  ·exact .inl (Nat.mul_lt_mul_of_pos_right hb h)
 have e1:IntKind.u64.wrap (b.toNat:Int)=(b.toNat:Int):=by rw[IntKind.wrap_u64];omega
 have e2:(b.toNat:Int)*(p:Int)=((b.toNat*p:Nat):Int):=(Int.natCast_mul ..).symm;rw[e1,e2,IntKind.wrap_u64];rcases h1 with h1|h1
 ·omega
 ·subst h1;simp
theorem TS(b:UInt8):IntKind.u64.wrap (b.toNat:Int)=((b.toNat:Nat):Int):=by
 have hb:=b.toNat_lt;rw[IntKind.wrap_u64];omega
theorem V8(b0 b1 b2 b3 b4 b5 b6 b7:UInt8):(bits .or .u64 (bits .or .u64 (bits .or .u64 (bits .or .u64 (bits .or .u64 (bits .or .u64 (bits .or .u64 (IntKind.u64.wrap (IntKind.u64.wrap (b0.toNat:Int)*72057594037927936)) (IntKind.u64.wrap (IntKind.u64.wrap (b1.toNat:Int)*281474976710656))) (IntKind.u64.wrap (IntKind.u64.wrap (b2.toNat:Int)*1099511627776))) (IntKind.u64.wrap (IntKind.u64.wrap (b3.toNat:Int)*4294967296))) (IntKind.u64.wrap (IntKind.u64.wrap (b4.toNat:Int)*16777216))) (IntKind.u64.wrap (IntKind.u64.wrap (b5.toNat:Int)*65536))) (IntKind.u64.wrap (IntKind.u64.wrap (b6.toNat:Int)*256))) (IntKind.u64.wrap (b7.toNat:Int)))=((Fg [b0,b1,b2,b3,b4,b5,b6,b7]:Nat):Int):=by
 have h0:=b0.toNat_lt;have h1:=b1.toNat_lt;have h2:=b2.toNat_lt;have h3:=b3.toNat_lt;have h4:=b4.toNat_lt;have h5:=b5.toNat_lt;have h6:=b6.toNat_lt;have h7:=b7.toNat_lt;have e0:IntKind.u64.wrap (IntKind.u64.wrap (b0.toNat:Int)*72057594037927936)=((b0.toNat*72057594037927936:Nat):Int):=Gh b0 72057594037927936 (by decide);have e1:IntKind.u64.wrap (IntKind.u64.wrap (b1.toNat:Int)*281474976710656)=((b1.toNat*281474976710656:Nat):Int):=Gh b1 281474976710656 (by decide);have e2:IntKind.u64.wrap (IntKind.u64.wrap (b2.toNat:Int)*1099511627776)=((b2.toNat*1099511627776:Nat):Int):=Gh b2 1099511627776 (by decide);have e3:IntKind.u64.wrap (IntKind.u64.wrap (b3.toNat:Int)*4294967296)=((b3.toNat*4294967296:Nat):Int):=Gh b3 4294967296 (by decide);have e4:IntKind.u64.wrap (IntKind.u64.wrap (b4.toNat:Int)*16777216)=((b4.toNat*16777216:Nat):Int):=Gh b4 16777216 (by decide);have e5:IntKind.u64.wrap (IntKind.u64.wrap (b5.toNat:Int)*65536)=((b5.toNat*65536:Nat):Int):=Gh b5 65536 (by decide);have e6:IntKind.u64.wrap (IntKind.u64.wrap (b6.toNat:Int)*256)=((b6.toNat*256:Nat):Int):=Gh b6 256 (by decide);have e7:=TS b7;rw[e0,e1,e2,e3,e4,e5,e6,e7];rw[FQ _ _ 56 (by omega) (by omega) (by omega)];rw[FQ _ _ 48 (by omega) (by omega) (by omega)];rw[FQ _ _ 40 (by omega) (by omega) (by omega)];rw[FQ _ _ 32 (by omega) (by omega) (by omega)];rw[FQ _ _ 24 (by omega) (by omega) (by omega)];rw[FQ _ _ 16 (by omega) (by omega) (by omega)];rw[FQ _ _ 8 (by omega) (by omega) (by omega)];simp[Fg,QA,Dh];omega
theorem QB(b o n c:Nat)(b0 b1 b2 b3 b4 b5 b6 b7:UInt8)(w:World)(hn:8<=n)(hm:n<=9223372036854775807)(c0:w.cell? ⟨b,o,none⟩=some (B b0))(c1:w.cell? ⟨b,o+1,none⟩=some (B b1))(c2:w.cell? ⟨b,o+2,none⟩=some (B b2))(c3:w.cell? ⟨b,o+3,none⟩=some (B b3))(c4:w.cell? ⟨b,o+4,none⟩=some (B b4))(c5:w.cell? ⟨b,o+5,none⟩=some (B b5))(c6:w.cell? ⟨b,o+6,none⟩=some (B b6))(c7:w.cell? ⟨b,o+7,none⟩=some (B b7)):Calls prog 125 #[.slice (some ⟨b,o,none⟩) n c] w (GO w (Fg [b0,b1,b2,b3,b4,b5,b6,b7])):=by
 have h8:(8:Int)<=(n:Int):=by omega
 have d8:decide ((8:Int)<=(n:Int))=true:=by simp;omega
 go_enter func125,ntmps125;go_wp2
 go_quiet (fail)
 go_wp2;go_ret;exact⟨Oa (V8 b0 b1 b2 b3 b4 b5 b6 b7),BJ (AC _ _) _⟩
theorem V9{l:List UInt8}(h:8<=l.length):∃b0 b1 b2 b3 b4 b5 b6 b7 r,l=b0::b1::b2::b3::b4::b5::b6::b7::r:=by
 match l,h with
 |b0::b1::b2::b3::b4::b5::b6::b7::r,_=>exact⟨b0,b1,b2,b3,b4,b5,b6,b7,r,rfl⟩
theorem MX(b0 b1 b2 b3 b4 b5 b6 b7:UInt8)(r:List UInt8):Fg (b0::b1::b2::b3::b4::b5::b6::b7::r)=Fg [b0,b1,b2,b3,b4,b5,b6,b7]:=by
 simp[Fg,QA]
theorem Ap:(prog.info? 24).map (·.size)=some 8:=by kernel_rfl
theorem TT{l:List UInt8}(h:l.length=8):∃n:Nm,n.bytes=l:=by
 match l,h with
 |[b0,b1,b2,b3,b4,b5,b6,b7],_=>exact⟨⟨b0,b1,b2,b3,b4,b5,b6,b7⟩,rfl⟩
theorem MY(l:List UInt8):(QA l).length=8:=by simp[QA]
theorem No(A:Option Addr)(c:Nat)(l:List UInt8)(w:World)(hr:Rd w w.heap.size A (l.map B))(hl:l.length<8):Calls prog 125 #[.slice A l.length c] w (GO w (Fg l)):=by
 obtain⟨xs,hxs⟩:=Wr (l.map B);have h1:∀u∈xs,u.oneCell'=true:=by rw[hxs];exact fun u hu=>B7 hu
 rw[<-hxs]at hr;have Hx:=AA hxs;clear hxs;obtain⟨n,hn⟩:=TT (MY l);have Hn:=AA hn;clear hn;have Hl:=AA hl;have d8:decide ((8:Int)<=(l.length:Int))=false:=by simp;omega
 have hi:(l.length:Int)<8:=by omega
 have hGT:min 8 l.length=l.length:=by omega
 have Hmin:=AA hGT;clear hGT;clear hl;go_enter func125,ntmps125;go_wp2_with (refine wpList_copy_splice rfl (.tmp 53) (.tmp 54) _ _ rfl 5 underlying60 (by kernel_rfl) _ _ _ _ _ _ rfl rfl w.heap.size 0 [.int .u8 0,.int .u8 0,.int .u8 0,.int .u8 0,.int .u8 0,.int .u8 0,.int .u8 0,.int .u8 0] 24 ?h1 xs ?h2 ?h3 ?h4 h1 w.heap.size w ?h5 (AB _) ?_)
 case h1=>exact heap_alloc_new w _
 case h2=>
  have:=Hl.out;have h2:xs.length=l.length:=by rw[Hx.out];simp
  rw[h2];exact(Nat.min_eq_left (by omega)).symm
 case h3=>
  intro hp;obtain⟨b,o,rfl,hb,hc⟩:=hr.cells (by rintro rfl;simp at hp);refine⟨_,rfl,fun j v hv=>?_⟩;rw[Addr.add_mid,World.cell?_alloc_lt _ _ _ hb];exact hc j v hv
 case h4=>
  have:=Hl.out;have h2:xs.length=l.length:=by rw[Hx.out];simp
  simp[h2];omega
 case h5=>exact(AC _ _).alloc (AB _) _
 intro w1 hg hb;have hB1:Blk w1 w.heap.size 24 #[B n.b0,B n.b1,B n.b2,B n.b3,B n.b4,B n.b5,B n.b6,B n.b7]:=by
  have e:(splice [Value.int .u8 0,.int .u8 0,.int .u8 0,.int .u8 0,.int .u8 0,.int .u8 0,.int .u8 0,.int .u8 0] 0 xs)=[B n.b0,B n.b1,B n.b2,B n.b3,B n.b4,B n.b5,B n.b6,B n.b7]:=by
   have h3:n.bytes.map B=[B n.b0,B n.b1,B n.b2,B n.b3,B n.b4,B n.b5,B n.b6,B n.b7]:=rfl;rw[<-h3,Hn.out,Hx.out];have:=Hl.out
   match l,this with
   |[],_=>rfl
   |[a],_=>rfl
   |[a,b],_=>rfl
   |[a,b,c],_=>rfl
   |[a,b,c,d],_=>rfl
   |[a,b,c,d,e],_=>rfl
   |[a,b,c,d,e,f],_=>rfl
   |[a,b,c,d,e,f,g],_=>rfl
  have h4:=hg.out;rw[e]at h4;exact h4
 clear hg;go_wp2_with (refine Fr rfl 24 (.tmp 3) rfl w.heap.size 0 rfl #[B n.b0,B n.b1,B n.b2,B n.b3,B n.b4,B n.b5,B n.b6,B n.b7] _ (fun j u hj=>by rw[Nat.zero_add,hB1.cell];exact hj) underlying24 rfl Ap ?_)
 refine(Gf n _).mono ?_;rintro e w2 ⟨rfl,hb2⟩;go_wp2;go_ret;refine⟨?_,hb.trans (hb2.mono hb.size)⟩;have e:Fg l=Dh n.bytes:=by rw[Hn.out];rfl
 rw[e];rfl
theorem Rm(A:Option Addr)(c:Nat)(l:List UInt8)(w:World)(hr:Rd w w.heap.size A (l.map B))(hm:l.length<=9223372036854775807):Calls prog 125 #[.slice A l.length c] w (GO w (Fg l)):=by
 by_cases h:l.length<8
 ·exact No A c l w hr h
 ·obtain⟨b0,b1,b2,b3,b4,b5,b6,b7,r,rfl⟩:=V9 (show 8<=l.length by omega);obtain⟨b,o,rfl,_,hc⟩:=hr.cells (by simp);rw[MX];exact QB b o _ c b0 b1 b2 b3 b4 b5 b6 b7 w (by simp) hm (hc 0 _ rfl) (hc 1 _ rfl) (hc 2 _ rfl) (hc 3 _ rfl) (hc 4 _ rfl) (hc 5 _ rfl) (hc 6 _ rfl) (hc 7 _ rfl)
def Jn(l:List UInt8):UInt64:=UInt64.ofNat (Fg l)
theorem Rn(l:List UInt8):Fg l<18446744073709551616:=by
 have:=Lf (QA l);rw[MY]at this;exact this
theorem MZ(l:List UInt8):(Jn l).toNat=Fg l:=by
 rw[Jn,UInt64.toNat_ofNat'];exact Nat.mod_eq_of_lt (Rn l)
def stK(l:List UInt8):Nat->UInt64×UInt64
 |0=>(0x243f6a8885a308d3,0x13198a2e03707344)
 |k+1=>Fk 2 ((stK l k).1^^^Jn (l.drop (8*k)),(stK l k).2)
def fin(l:List UInt8):UInt64×UInt64:=
 let s:=stK l ((l.length+7)/8)
 Fk 4 (s.1,s.2^^^UInt64.ofNat l.length)
def D3(l:List UInt8):Nm:=ofN ((fin l).1^^^(fin l).2).toNat
theorem U3(A:Option Addr)(n c:Nat)(l:List UInt8)(w:World)(hl:l.length=n)(hr:Rd w w.heap.size A (l.map B))(hm:l.length<=9223372036854775807):Calls prog 125 #[.slice A n c] w fun e w'=>e= .returned (U (Jn l))/\Wx w w':=by
 subst hl;exact(Rm A c l w hr hm).mono fun e w' h=>⟨by rw[h.1,<-MZ],h.2⟩
theorem Wa(x y:UInt64)(b:Nat)(w:World)(hb:Blk w b 193 #[U x,U y]):Calls prog 126 #[.pointer (some ⟨b,0,none⟩),.int .i64 2] w fun e w'=>e= .returned (.tuple #[])/\Blk w' b 193 #[U (Fk 2 (x,y)).1,U (Fk 2 (x,y)).2]/\w.grownBy w' (some b)/\w'.heap.size=w.heap.size:=Ob 2 x y b w (by omega) hb
theorem Wb(x y:UInt64)(b:Nat)(w:World)(hb:Blk w b 193 #[U x,U y]):Calls prog 126 #[.pointer (some ⟨b,0,none⟩),.int .i64 4] w fun e w'=>e= .returned (.tuple #[])/\Blk w' b 193 #[U (Fk 4 (x,y)).1,U (Fk 4 (x,y)).2]/\w.grownBy w' (some b)/\w'.heap.size=w.heap.size:=Ob 4 x y b w (by omega) hb
theorem TU(y:UInt64)(n:Nat)(h:n<18446744073709551616):bits .xor .u64 (y.toNat:Int) (n:Int)=((y^^^UInt64.ofNat n).toNat:Int):=by
 have e:(n:Int)=((UInt64.ofNat n).toNat:Int):=by rw[UInt64.toNat_ofNat',Nat.mod_eq_of_lt h]
 rw[e,OY]
theorem Rd.cut{w:World}{B':Nat}{A:Option Addr}{xs:List Value}(h:Rd w B' A xs)(k cap:Nat)(hc:xs.length<=cap):Rd w B' (if cap=k then A else A.map (·.add k)) (xs.drop k):=by
 by_cases hk:xs.length<=k
 ·exact .inl (List.drop_eq_nil_of_le hk)
 ·obtain⟨b,o,rfl,hb,xH⟩:=h.cells (by rintro rfl;simp at hk);rw[if_neg (by omega)];refine .inr ⟨b,o+k,by simp[Addr.add_mid],hb,fun j u hu=>?_⟩;rw[List.getElem?_drop]at hu;rw[Nat.add_assoc];exact xH _ u hu
theorem TV(A:Option Addr)(c:Nat)(l:List UInt8)(w:World)(hr:Rd w w.heap.size A (l.map B))(hm:l.length<=c)(_hc:c<=maxLen)(xQ:l.length<=1000000000000):Calls prog 85 #[.slice A l.length c] w (BW w (D3 l)):=by
 have HR:=AA hr;clear hr;unfold maxLen at _hc;go_enter func85,ntmps85;go_wp2
 go_loopw [4] (fun i wr=>∃k:Nat,8*k<=l.length+7/\i= .int .i64 ((8*k:Nat):Int)/\Blk wr (w.heap.size+1) 193 #[U (stK l k).1,U (stK l k).2]/\(∃z,Blk wr w.heap.size 24 z/\z.size=8)/\Wx w wr)
  (fun i _=>l.length+8-(intOf i).toNat)
 case atStart=>
  refine⟨0,by omega,rfl,?_,⟨_,(Blk.new w _ _).alloc _,rfl⟩,((AC _ _).alloc (AB _) _).alloc (by simp) _⟩;have:=Blk.new (w.alloc (.cells #[.int .u8 0,.int .u8 0,.int .u8 0,.int .u8 0,.int .u8 0,.int .u8 0,.int .u8 0,.int .u8 0] 24)) 193 #[.int .u64 2611923443488327891,.int .u64 1376283091369227076];have e:(#[U (stK l 0).1,U (stK l 0).2]:Array Value)=#[.int .u64 2611923443488327891,.int .u64 1376283091369227076]:=rfl;rw[e];simpa using this
 case round=>
  obtain⟨k,hk,rfl,hB,⟨z,hZ,hz⟩,hbw⟩:=hrel;have Hz:=AA hz;clear hz;by_cases hlt:8*k<l.length
  ·have Hst:Hid (stK l (k+1)=Fk 2 ((stK l k).1^^^Jn (l.drop (8*k)),(stK l k).2)):=rfl;generalize hs:stK l k=s at*;obtain⟨x,y⟩:=s;have Hs:=AA hs;clear hs;obtain⟨b,o,rfl,hbo,xH⟩:=HR.out.cells (by rintro h;simp at h;subst h;simp at hlt);have hrd:Rd wr wr.heap.size (some ⟨b,o+8*k,none⟩) ((l.drop (8*k)).map B):=by
    have h1:=((HR.out.below hbw).more hbw.size).cut (8*k) c (by simpa using hm);rw[if_neg (by omega)]at h1;simpa[Addr.add_mid,List.map_drop]using h1
   have Hrd:=AA hrd;clear hrd;have hD9:=AA xH;clear xH;have hcne:¬c=8*k:=by omega
   have c0:wr.cell? ⟨w.heap.size+1,0,none⟩=some (U x):=hB.cell 0;have f0:=hB.frozen 0;go_wp2;have i1:(0:Int)<=8*(k:Int):=by omega
   have i2:8*(k:Int)<=(l.length:Int):=by omega
   have i3:(8*(k:Int)).toNat=8*k:=by omega
   have HW:Hid (Calls prog 125 #[.slice (some ⟨b,o+8*k,none⟩) (l.length-8*k) (c-8*k)] wr.drew fun e w'=>e= .returned (U (Jn (l.drop (8*k))))/\Wx wr w'/\w'.cell? ⟨w.heap.size+1,0,none⟩=some (U x)/\w'.frozen? ⟨w.heap.size+1,0,none⟩=false):=by
    refine(U3 _ _ _ (l.drop (8*k)) _ (by simp) Hrd.out.drew (by simp;omega)).mono ?_;rintro e w' ⟨rfl,hb'⟩;exact⟨rfl,(AC _ _).drew.trans hb',(hb'.cell (p:=⟨w.heap.size+1,0,none⟩) hB.lt).trans c0,(hb'.frozen (p:=⟨w.heap.size+1,0,none⟩) hB.lt).trans f0⟩
   go_region_with ((go_at_call 125;refine HW.out.mono ?_;rintro e w' ⟨rfl,hb',c0',f0'⟩))
   all_goals
    simp only[OY];generalize hx2:x^^^Jn (l.drop (8*k))=x2 at*;have Hx2:=AA hx2;clear hx2;have hB':=(hB.below hb' hB.lt).put 0 (U x2);have hZ':=(hZ.below hb' hZ.lt).far (p:=⟨w.heap.size+1,0,none⟩) (by simp) (U x2);have hAa:=(hbw.trans (hb'.mono hbw.size)).setCell (p:=⟨w.heap.size+1,0,none⟩) (by simp) (U x2);generalize w'.setCell ⟨w.heap.size+1,0,none⟩ (U x2)=w3 at*;clear hB hZ hbw hb' c0 c0' f0 f0' HW Hrd;go_wp2_with fail
    refine(Wa x2 y _ _ hB').mono ?_;rintro e w4 ⟨rfl,hB4,hg4,hs4⟩;have hZ4:=hZ'.kept hg4 (by simp);have xI:Wx w w4:=hAa.grown hg4 hAa.size (by rintro j ⟨⟩;omega);clear hZ' hAa hB' hg4;go_wp2_with fail
    go_roundw
    case rel=>
     refine⟨k+1,by omega,by go_num,?_,⟨z,hZ4,Hz.out⟩,xI⟩;rw[Hst.out];exact hB4
    case measure=>simp[intOf];omega
  ·obtain rfl:k=(l.length+7)/8:=by omega
   have hAx:fin l=Fk 4 ((stK l ((l.length+7)/8)).1,(stK l ((l.length+7)/8)).2^^^UInt64.ofNat l.length):=rfl;have Hfin:=AA hAx;clear hAx;generalize hs:stK l ((l.length+7)/8)=s at*;obtain⟨x,y⟩:=s;have Hs:=AA hs;clear hs;have c1:wr.cell? ⟨w.heap.size+1,1,none⟩=some (U y):=hB.cell 1;have f1:=hB.frozen 1;have hl0:(0:Int)<=(l.length:Int):=by omega
   go_wp2_with fail
   simp only[TU y l.length (by omega)];generalize hy2:y^^^UInt64.ofNat l.length=y2 at*;have Hy2:=AA hy2;clear hy2;have hB':=hB.put 1 (U y2);have hZ':=hZ.far (p:=⟨w.heap.size+1,1,none⟩) (by simp) (U y2);have hAa:=hbw.setCell (p:=⟨w.heap.size+1,1,none⟩) (by simp) (U y2);generalize wr.setCell ⟨w.heap.size+1,1,none⟩ (U y2)=w3 at*;clear hB hZ hbw c1 f1;refine(Wb x y2 _ _ hB').mono ?_;rintro e w4 ⟨rfl,hB4,hg4,hs4⟩;have hZ4:=hZ'.kept hg4 (by simp);have xI:Wx w w4:=hAa.grown hg4 hAa.size (by rintro j ⟨⟩;omega);clear hZ' hAa hB' hg4;generalize hf:Fk 4 (x,y2)=f at*;obtain⟨fx,fy⟩:=f;have Hf:=AA hf;clear hf;have c0:w4.cell? ⟨w.heap.size+1,0,none⟩=some (U fx):=hB4.cell 0;have c1:w4.cell? ⟨w.heap.size+1,1,none⟩=some (U fy):=hB4.cell 1;go_wp2_with fail
   simp only[OY];generalize hq:fx^^^fy=q at*;have Hq:=AA hq;clear hq;refine(U2 q.toNat _).mono ?_;generalize hr:ofN q.toNat=r;have Hr:=AA hr;clear hr;rintro e w5 ⟨rfl,hb5⟩;have hZ5:=hZ4.below hb5 hZ4.lt;have xS:=xI.trans (hb5.mono xI.size);clear hZ4 xI hb5 hB4 c0 c1;go_wp2_with (refine AJ rfl 24 (.tmp 2) (.tmp 34) rfl w.heap.size _ rfl rfl 24 z hZ5 ?s1 Ap ?s2 ?_)
   case s1=>rw[Hz.out];rfl
   case s2=>exact⟨rfl,rfl,rfl,rfl,rfl,rfl,rfl,rfl⟩
   intro w6 hZ6 hg6 hs6;have xh:Wx w w6:=xS.grown hg6 xS.size (by rintro j ⟨⟩;omega);go_wp2;refine bodyPost_ret (results_cell_row (g:=w.heap.size) rfl _ _ _ _ _ _ rfl hZ6 underlying24 rfl Ap) rfl ⟨?_,xh⟩;have e:D3 l=r:=by rw[D3,Hfin.out,<-Hr.out,<-Hq.out]
   rw[e]
def Ho:Array Value:=madeCells #[.int .u8 0] 160
theorem TW:Ho.size=160:=size_madeCells _ _
theorem WA(W:World):(Instr.makeSlice 60 (.int .i64 0) (.int .i64 160)).run prog W= .ok (.slice (some ⟨W.heap.size,0,none⟩) 0 160) (W.alloc (.cells Ho 5)):=by
 obtain⟨i0,hi,hz0,hz1,hz2⟩:=info_parts Bz;have:=run_make (P:=prog) W 60 5 i0 (.int .u8 0) underlying60 hi hz0 .i64 .i64 0 160 (by omega) (by omega) (by rw[hz2];omega) (by omega);rw[this,hz1];rfl
theorem TX{w:World}{base e size n:Nat}{v:Value}{xs:List Value}(h:w.ownsRow base e size v n xs)(hn:0<n):∃A c,v= .slice A n c/\n<=c/\c<=maxLen:=by
 rcases h.2 with⟨rfl,rfl⟩|⟨g,cap,cur,rfl,_,_,h1,h2,_⟩
 ·omega
 ·exact⟨_,_,rfl,h1,h2⟩
theorem CB(t:UInt8)(A:Option Addr)(c:Nat)(l:List UInt8)(r:Nm)(w:World)(hr:Rd w w.heap.size A (l.map B))(xQ:l.length<=1000000000)(zN:D3 (t::l)=r):Calls prog 50 #[B t,.slice A l.length c] w (BW w r):=by
 have HS:=AA zN;clear zN;have HR:=AA hr;clear hr;have hmk:=WA;obtain⟨xs,hxs⟩:=Wr (l.map B);have Hx:=AA hxs;clear hxs;go_enter func50,ntmps50;go_wp2_with (at_builtin;refine Ar rfl (.tmp 7) (.tmp 9) _ rfl w.heap.size 5 (.int .u8 0) 1 1 underlying60 Bz rfl (by decide) (.slice (some ⟨w.heap.size+1,0,none⟩) 0 160) 0 [] rfl ?r0 (w.heap.size+3) _ 1 1 [B t] rfl rfl ?r1 ?r2 ?r3 ?r4 ?r5 ?_)
 case r0=>
  have h:=World.ownsRow_made (base:=w.heap.size) (e:=5) (size:=1) (w.alloc (.cells #[.int .u8 0,.int .u8 0,.int .u8 0,.int .u8 0,.int .u8 0,.int .u8 0,.int .u8 0,.int .u8 0] 24)) Ho 160 (by simp) (by unfold maxLen;omega) (by rw[TW]);have h2:=h.alloc (.cells #[B t] 5);simpa using h2
 case r1=>
  have h:=Rd.one ((w.alloc (.cells #[.int .u8 0,.int .u8 0,.int .u8 0,.int .u8 0,.int .u8 0,.int .u8 0,.int .u8 0,.int .u8 0] 24)).alloc (.cells Ho 5)) (B t) 5;simpa using h
 case r2=>exact fun u hu=>Hj hu rfl
 case r3=>omega
 case r4=>unfold maxLen;omega
 case r5=>simp;omega
 intro v1 w1 hBt hg1 hat1;have hZ1:Blk w1 w.heap.size 24 #[.int .u8 0,.int .u8 0,.int .u8 0,.int .u8 0,.int .u8 0,.int .u8 0,.int .u8 0,.int .u8 0]:=(((Blk.new w _ _).alloc _).alloc _).kept hg1 (by simp[Value.ownBlock]);have hb1:Wx w w1:=((((AC _ _).alloc (AB _) _).alloc (by simp) _).alloc (by simp;omega) _).grown hg1 (by simp;omega) (by rintro j hj;simp[Value.ownBlock]at hj;omega);clear hg1 hat1 hmk;go_wp2_with (at_builtin;refine Ar rfl (.tmp 10) (.tmp 11) _ rfl w.heap.size 5 (.int .u8 0) 1 1 underlying60 Bz rfl (by decide) _ 1 [B t] rfl ?q0 w.heap.size A l.length c xs rfl ?q1 ?q2 ?q3 ?q4 ?q5 ?q6 ?_)
 case q0=>exact hBt
 case q1=>rw[Hx.out];simp
 case q2=>rw[Hx.out];exact HR.out.below hb1
 case q3=>rw[Hx.out];exact fun u hu=>B7 hu
 case q4=>omega
 case q5=>unfold maxLen;omega
 case q6=>exact hb1.size
 intro v2 w2 xG hg2 hAY;have hZ2:=hZ1.kept hg2 (CO hBt hZ1 (by decide));have hb2:=BO hb1 hBt hg2;clear hg2 hAY hZ1 hb1 hBt;have e:[B t]++xs=(t::l).map B:=by rw[Hx.out];simp
 have xC:w2.ownsRow w.heap.size 5 1 v2 (t::l).length ((t::l).map B):=by
  rw[<-e,Ag,Nat.add_comm];exact xG
 clear e xG;rcases TX xC (by simp)with⟨A2,c2,rfl,hc2,hm2⟩
 go_wp2_with fail
 have xN:Calls prog 85 #[.slice A2 (l.length+1) c2] w2 (BW w2 r):=by
  rw[<-HS.out];exact TV A2 c2 (t::l) w2 (Rd.of_own xC) hc2 hm2 (by simp;omega)
 refine xN.mono ?_;clear xN;rintro en w5 ⟨rfl,hb5⟩;have hZ5:=hZ2.below hb5 hZ2.lt;have xS:=hb2.trans (hb5.mono hb2.size);clear hZ2 hb2 hb5 xC;go_wp2_with (refine AJ rfl 24 (.tmp 4) (.tmp 13) rfl w.heap.size _ rfl rfl 24 _ hZ5 rfl Ap ?s2 ?_)
 case s2=>exact⟨rfl,rfl,rfl,rfl,rfl,rfl,rfl,rfl⟩
 intro w6 hZ6 hg6 hs6;have xh:Wx w w6:=xS.grown hg6 xS.size (by rintro j ⟨⟩;omega);go_wp2;exact bodyPost_ret (results_cell_row (g:=w.heap.size) rfl _ _ _ _ _ _ rfl hZ6 underlying24 rfl Ap) rfl ⟨rfl,xh⟩
def WB(t:UInt8)(x y:Nm):Nm:=D3 (t::(x.bytes++y.bytes))
abbrev Nm.cells(n:Nm):Array Value:=#[B n.b0,B n.b1,B n.b2,B n.b3,B n.b4,B n.b5,B n.b6,B n.b7]
theorem QC(t:UInt8)(x y r:Nm)(w:World)(zN:D3 (t::(x.bytes++y.bytes))=r):Calls prog 138 #[B t,x.val,y.val] w (BW w r):=by
 have HS:=AA zN;clear zN;go_enter func138,ntmps138;go_wp2;have hX:Blk ((((w.alloc (Obj.cells x.cells 24)).alloc (Obj.cells y.cells 24)).alloc (Obj.cells #[.int .u8 0,.int .u8 0,.int .u8 0,.int .u8 0,.int .u8 0,.int .u8 0,.int .u8 0,.int .u8 0] 24)).alloc (Obj.cells #[.int .u8 0,.int .u8 0,.int .u8 0,.int .u8 0,.int .u8 0,.int .u8 0,.int .u8 0,.int .u8 0,.int .u8 0,.int .u8 0,.int .u8 0,.int .u8 0,.int .u8 0,.int .u8 0,.int .u8 0,.int .u8 0] 245)) w.heap.size 24 x.cells:=(((Blk.new w _ _).alloc _).alloc _).alloc _;have hY:Blk ((((w.alloc (Obj.cells x.cells 24)).alloc (Obj.cells y.cells 24)).alloc (Obj.cells #[.int .u8 0,.int .u8 0,.int .u8 0,.int .u8 0,.int .u8 0,.int .u8 0,.int .u8 0,.int .u8 0] 24)).alloc (Obj.cells #[.int .u8 0,.int .u8 0,.int .u8 0,.int .u8 0,.int .u8 0,.int .u8 0,.int .u8 0,.int .u8 0,.int .u8 0,.int .u8 0,.int .u8 0,.int .u8 0,.int .u8 0,.int .u8 0,.int .u8 0,.int .u8 0] 245)) (w.heap.size+1) 24 y.cells:=by
  have:=((Blk.new (w.alloc (Obj.cells x.cells 24)) 24 y.cells).alloc (Obj.cells #[.int .u8 0,.int .u8 0,.int .u8 0,.int .u8 0,.int .u8 0,.int .u8 0,.int .u8 0,.int .u8 0] 24)).alloc (Obj.cells #[.int .u8 0,.int .u8 0,.int .u8 0,.int .u8 0,.int .u8 0,.int .u8 0,.int .u8 0,.int .u8 0,.int .u8 0,.int .u8 0,.int .u8 0,.int .u8 0,.int .u8 0,.int .u8 0,.int .u8 0,.int .u8 0] 245);simpa using this
 have hR:Blk ((((w.alloc (Obj.cells x.cells 24)).alloc (Obj.cells y.cells 24)).alloc (Obj.cells #[.int .u8 0,.int .u8 0,.int .u8 0,.int .u8 0,.int .u8 0,.int .u8 0,.int .u8 0,.int .u8 0] 24)).alloc (Obj.cells #[.int .u8 0,.int .u8 0,.int .u8 0,.int .u8 0,.int .u8 0,.int .u8 0,.int .u8 0,.int .u8 0,.int .u8 0,.int .u8 0,.int .u8 0,.int .u8 0,.int .u8 0,.int .u8 0,.int .u8 0,.int .u8 0] 245)) (w.heap.size+1+1) 24 #[.int .u8 0,.int .u8 0,.int .u8 0,.int .u8 0,.int .u8 0,.int .u8 0,.int .u8 0,.int .u8 0]:=by
  have:=((Blk.new ((w.alloc (Obj.cells x.cells 24)).alloc (Obj.cells y.cells 24)) 24 #[.int .u8 0,.int .u8 0,.int .u8 0,.int .u8 0,.int .u8 0,.int .u8 0,.int .u8 0,.int .u8 0])).alloc (Obj.cells #[.int .u8 0,.int .u8 0,.int .u8 0,.int .u8 0,.int .u8 0,.int .u8 0,.int .u8 0,.int .u8 0,.int .u8 0,.int .u8 0,.int .u8 0,.int .u8 0,.int .u8 0,.int .u8 0,.int .u8 0,.int .u8 0] 245);simpa using this
 have hD:Blk ((((w.alloc (Obj.cells x.cells 24)).alloc (Obj.cells y.cells 24)).alloc (Obj.cells #[.int .u8 0,.int .u8 0,.int .u8 0,.int .u8 0,.int .u8 0,.int .u8 0,.int .u8 0,.int .u8 0] 24)).alloc (Obj.cells #[.int .u8 0,.int .u8 0,.int .u8 0,.int .u8 0,.int .u8 0,.int .u8 0,.int .u8 0,.int .u8 0,.int .u8 0,.int .u8 0,.int .u8 0,.int .u8 0,.int .u8 0,.int .u8 0,.int .u8 0,.int .u8 0] 245)) (w.heap.size+1+1+1) 245 [Value.int .u8 0,Value.int .u8 0,Value.int .u8 0,Value.int .u8 0,Value.int .u8 0,Value.int .u8 0,Value.int .u8 0,Value.int .u8 0,Value.int .u8 0,Value.int .u8 0,Value.int .u8 0,Value.int .u8 0,Value.int .u8 0,Value.int .u8 0,Value.int .u8 0,Value.int .u8 0].toArray:=by
  have:=(Blk.new (((w.alloc (Obj.cells x.cells 24)).alloc (Obj.cells y.cells 24)).alloc (Obj.cells #[.int .u8 0,.int .u8 0,.int .u8 0,.int .u8 0,.int .u8 0,.int .u8 0,.int .u8 0,.int .u8 0] 24)) 245 #[.int .u8 0,.int .u8 0,.int .u8 0,.int .u8 0,.int .u8 0,.int .u8 0,.int .u8 0,.int .u8 0,.int .u8 0,.int .u8 0,.int .u8 0,.int .u8 0,.int .u8 0,.int .u8 0,.int .u8 0,.int .u8 0]);simpa using this
 have hbW:Wx w ((((w.alloc (Obj.cells x.cells 24)).alloc (Obj.cells y.cells 24)).alloc (Obj.cells #[.int .u8 0,.int .u8 0,.int .u8 0,.int .u8 0,.int .u8 0,.int .u8 0,.int .u8 0,.int .u8 0] 24)).alloc (Obj.cells #[.int .u8 0,.int .u8 0,.int .u8 0,.int .u8 0,.int .u8 0,.int .u8 0,.int .u8 0,.int .u8 0,.int .u8 0,.int .u8 0,.int .u8 0,.int .u8 0,.int .u8 0,.int .u8 0,.int .u8 0,.int .u8 0] 245)):=((((AC _ _).alloc (AB _) _).alloc (by simp) _).alloc (by simp;omega) _).alloc (by simp;omega) _;generalize ((((w.alloc (Obj.cells x.cells 24)).alloc (Obj.cells y.cells 24)).alloc (Obj.cells #[.int .u8 0,.int .u8 0,.int .u8 0,.int .u8 0,.int .u8 0,.int .u8 0,.int .u8 0,.int .u8 0] 24)).alloc (Obj.cells #[.int .u8 0,.int .u8 0,.int .u8 0,.int .u8 0,.int .u8 0,.int .u8 0,.int .u8 0,.int .u8 0,.int .u8 0,.int .u8 0,.int .u8 0,.int .u8 0,.int .u8 0,.int .u8 0,.int .u8 0,.int .u8 0] 245))=W at*;refine wp_region_still_tail 2 (by kernel_rfl) (by kernel_rfl) ?_;simp only[List.take_succ_cons,List.take_zero,List.drop_succ_cons,List.drop_zero]
 iterate 2 still_step
 refine wpStill_nil ?_;change wpList _ _ _ _ _ W.drew;replace hX:=hX.drew;replace hY:=hY.drew;replace hR:=hR.drew;replace hD:=hD.drew;replace hbW:=hbW.drew;generalize W.drew=W1 at*;refine wpList_copy_splice rfl (.tmp 8) (.tmp 9) _ _ rfl 5 underlying60 (by kernel_rfl) _ _ _ _ _ _ rfl rfl (w.heap.size+1+1+1) 0 [Value.int .u8 0,Value.int .u8 0,Value.int .u8 0,Value.int .u8 0,Value.int .u8 0,Value.int .u8 0,Value.int .u8 0,Value.int .u8 0,Value.int .u8 0,Value.int .u8 0,Value.int .u8 0,Value.int .u8 0,Value.int .u8 0,Value.int .u8 0,Value.int .u8 0,Value.int .u8 0] 245 hD (x.bytes.map B) rfl ?h3 (by simp[Nm.bytes]) (fun u hu=>B7 hu) (w.heap.size+1+1+1) W1 (AC _ _) (AB _) ?_
 case h3=>
  intro _;refine⟨rfl,_,rfl,fun j v hv=>?_⟩;rw[Addr.add_mid,hX.cell,Nat.zero_add];simpa[Nm.bytes]using hv
 intro w2 hg2 hb2;have hY2:=hY.below hb2 (by omega);have hR2:=hR.below hb2 (by omega);have xL:=hbW.trans (hb2.mono (by omega));have hD2:Blk w2 (w.heap.size+1+1+1) 245 (x.bytes.map B++[Value.int .u8 0,Value.int .u8 0,Value.int .u8 0,Value.int .u8 0,Value.int .u8 0,Value.int .u8 0,Value.int .u8 0,Value.int .u8 0,Value.int .u8 0,Value.int .u8 0,Value.int .u8 0,Value.int .u8 0,Value.int .u8 0,Value.int .u8 0,Value.int .u8 0,Value.int .u8 0].drop 8).toArray:=hg2.out;clear hX hY hR hD hbW hb2 hg2;go_frame;go_wp2;refine wp_region_still_tail 2 (by kernel_rfl) (by kernel_rfl) ?_;simp only[List.take_succ_cons,List.take_zero,List.drop_succ_cons,List.drop_zero]
 iterate 2 still_step
 refine wpStill_nil ?_;change wpList _ _ _ _ _ w2.drew;replace hY2:=hY2.drew;replace hR2:=hR2.drew;replace hD2:=hD2.drew;replace xL:=xL.drew;generalize w2.drew=w3 at*;refine wpList_copy_splice rfl (.tmp 11) (.tmp 12) _ _ rfl 5 underlying60 (by kernel_rfl) _ _ _ _ _ _ rfl rfl (w.heap.size+1+1+1) 8 _ 245 hD2 (y.bytes.map B) rfl ?h4 (by simp[Nm.bytes]) (fun u hu=>B7 hu) (w.heap.size+1+1+1) w3 (AC _ _) (AB _) ?_
 case h4=>
  intro _;refine⟨rfl,_,rfl,fun j v hv=>?_⟩;rw[Addr.add_mid,hY2.cell,Nat.zero_add];simpa[Nm.bytes]using hv
 intro w4 hg4 hb4;have hR4:=hR2.below hb4 (by omega);have xI:=xL.trans (hb4.mono (by omega));have hD4:Blk w4 (w.heap.size+1+1+1) 245 ((x.bytes++y.bytes).map B).toArray:=by
  have h:=hg4.out;unfold Blk;simpa[splice,Nm.bytes]using h
 have hlt:=hD4.lt;clear hY2 hR2 hD2 xL hb4 hg4;go_frame;go_wp2_with fail
 have hrd:Rd w4 w4.heap.size (some ⟨w.heap.size+1+1+1,0,none⟩) ((x.bytes++y.bytes).map B):=by
  have h:=Rd.of_blk hD4 0 16;simpa[Nm.bytes]using h
 have xN:Calls prog 50 #[B t,.slice (some ⟨w.heap.size+1+1+1,0,none⟩) 16 16] w4 (BW w4 r):=CB t _ 16 (x.bytes++y.bytes) r w4 hrd (by simp[Nm.bytes]) HS.out;refine xN.mono ?_;clear xN hrd hD4;rintro en w5 ⟨rfl,hb5⟩;have hZ5:=hR4.below hb5 hR4.lt;have xS:=xI.trans (hb5.mono xI.size);clear hR4 xI hb5;go_wp2_with (refine AJ rfl 24 (.tmp 6) (.tmp 16) rfl (w.heap.size+1+1) _ rfl rfl 24 _ hZ5 rfl Ap ?s2 ?_)
 case s2=>exact⟨rfl,rfl,rfl,rfl,rfl,rfl,rfl,rfl⟩
 intro w6 hZ6 hg6 hs6;have xh:Wx w w6:=xS.grown hg6 xS.size (by rintro j ⟨⟩;omega);go_wp2;exact bodyPost_ret (results_cell_row (g:=w.heap.size+1+1) rfl _ _ _ _ _ _ rfl hZ6 underlying24 rfl Ap) rfl ⟨rfl,xh⟩
theorem WC{a b:Int}(h:a=b):Ending.returned (.int .i64 a)= .returned (.int .i64 b):=by rw[h]
theorem EC(d n:Nat)(w:World)(hn:n=2^(d+1))(hd:d<=40):Calls prog 137 #[.int .i64 (n:Int)] w fun e w'=>e= .returned (.int .i64 ((2^d:Nat):Int))/\w'=w:=by
 have hb:n<=2^41:=by rw[hn];exact Nat.pow_le_pow_right (by omega) (by omega)
 have hb':n<=2199023255552:=hb;have HN:=AA hn;clear hn hb;go_enter func137,ntmps137;go_wp2
 go_loop [3] (fun v=>∃e:Nat,e<=d/\v= .int .i64 ((2^e:Nat):Int)) (fun v=>n-(intOf v).toNat)
 case atStart=>exact⟨0,by omega,rfl⟩
 case round=>
  obtain⟨e,he,rfl⟩:=hrel;obtain⟨q,hq⟩:=Wr (2^e);have xp:1<=q:=by rw[hq];exact Nat.one_le_two_pow
  rw[<-hq];by_cases hlt:e<d
  ·have h1:2*(2*q)<=n:=by
    rw[HN.out,hq];have h2:2^(e+1+1)<=2^(d+1):=Nat.pow_le_pow_right (by omega) (by omega);have e1:2^(e+1+1)=2*(2*2^e):=by rw[Nat.pow_succ,Nat.pow_succ];omega
    omega
   have HQ:=AA hq;clear hq;go_wp2
   go_round
   case rel=>exact⟨e+1,by omega,by rw[Nat.pow_succ,<-HQ.out];go_num⟩
   case measure=>simp[intOf];omega
  ·obtain rfl:e=d:=by omega
   have h1:n=2*q:=by rw[HN.out,hq,Nat.pow_succ];omega
   have h2:n<=2*q:=by omega
   have h3:2*q<=n:=by omega
   have hd:decide ((q:Int)<(n:Int)-(q:Int))=false:=by simp;omega
   have HQ:=AA hq;clear hq h1;go_wp2;go_ret;exact⟨WC (congrArg (fun z:Nat=>(z:Int)) HQ.out),rfl⟩
def WE(n:Nm):Nm:=D3 (17::n.bytes)
theorem Ma(n r:Nm)(w:World)(zN:D3 (17::n.bytes)=r):Calls prog 136 #[n.val] w (BW w r):=by
 have HS:=AA zN;clear zN;go_enter func136,ntmps136;go_wp2_with fail
 have hX:Blk ((w.alloc (Obj.cells n.cells 24)).alloc (Obj.cells #[.int .u8 0,.int .u8 0,.int .u8 0,.int .u8 0,.int .u8 0,.int .u8 0,.int .u8 0,.int .u8 0] 24)) w.heap.size 24 n.cells:=(Blk.new w _ _).alloc _;have hR:Blk ((w.alloc (Obj.cells n.cells 24)).alloc (Obj.cells #[.int .u8 0,.int .u8 0,.int .u8 0,.int .u8 0,.int .u8 0,.int .u8 0,.int .u8 0,.int .u8 0] 24)) (w.heap.size+1) 24 #[.int .u8 0,.int .u8 0,.int .u8 0,.int .u8 0,.int .u8 0,.int .u8 0,.int .u8 0,.int .u8 0]:=by
  have:=Blk.new (w.alloc (Obj.cells n.cells 24)) 24 #[.int .u8 0,.int .u8 0,.int .u8 0,.int .u8 0,.int .u8 0,.int .u8 0,.int .u8 0,.int .u8 0];simpa using this
 have hbW:Wx w ((w.alloc (Obj.cells n.cells 24)).alloc (Obj.cells #[.int .u8 0,.int .u8 0,.int .u8 0,.int .u8 0,.int .u8 0,.int .u8 0,.int .u8 0,.int .u8 0] 24)):=((AC _ _).alloc (AB _) _).alloc (by simp) _;generalize ((w.alloc (Obj.cells n.cells 24)).alloc (Obj.cells #[.int .u8 0,.int .u8 0,.int .u8 0,.int .u8 0,.int .u8 0,.int .u8 0,.int .u8 0,.int .u8 0] 24))=W at*;have hrd:Rd W W.heap.size (some ⟨w.heap.size,0,none⟩) (n.bytes.map B):=by
  have h:=Rd.of_blk hX 0 8;simpa[Nm.bytes]using h
 have xN:Calls prog 50 #[.int .u8 17,.slice (some ⟨w.heap.size,0,none⟩) 8 8] W (BW W r):=CB 17 _ 8 n.bytes r W hrd (by simp[Nm.bytes]) HS.out;refine xN.mono ?_;clear xN hrd hX;rintro en w5 ⟨rfl,hb5⟩;have hZ5:=hR.below hb5 hR.lt;have xS:=hbW.trans (hb5.mono hbW.size);clear hR hbW hb5;go_wp2_with (refine AJ rfl 24 (.tmp 2) (.tmp 4) rfl (w.heap.size+1) _ rfl rfl 24 _ hZ5 rfl Ap ?s2 ?_)
 case s2=>exact⟨rfl,rfl,rfl,rfl,rfl,rfl,rfl,rfl⟩
 intro w6 hZ6 hg6 hs6;have xh:Wx w w6:=xS.grown hg6 xS.size (by rintro j ⟨⟩;omega);go_wp2;exact bodyPost_ret (results_cell_row (g:=w.heap.size+1) rfl _ _ _ _ _ _ rfl hZ6 underlying24 rfl Ap) rfl ⟨rfl,xh⟩
end
end Go.Proofs.YtadllffeoibelaaGreat
