/-
  Parts of the proof. No condition.
-/
import Derived.Test.YtadllffeoibelaaGreatS1
import Derived.RegionCalls
import Derived.Deep.RegionWith
open Go.Proofs.Tryz
namespace Go.Proofs.YtadllffeoibelaaGreat
set_option maxRecDepth 100000
set_option maxHeartbeats 32000000
set_option linter.all false
section
open Go.RowKit
def C5(n:Int):UInt8:=UInt8.ofNat n.toNat
def PV(v:Vt):List UInt8:=[C5 v.kind,C5 v.slot,C5 v.round,C5 v.choice,C5 v.signer]
def Ef(v:Vt):List UInt8:=[C5 v.kind,C5 v.slot,C5 v.round,C5 v.choice,C5 v.signer,BZ v.support.toNat 1,BZ v.support.toNat 0]++v.parent.bytes++v.value.bytes
theorem C6{n:Int}(h0:0<=n)(h1:n<=255):B (C5 n)= .int .u8 n:=by
 show Value.int .u8 _=_;rw[Value.int.injEq];refine⟨rfl,?_⟩;simp[C5];omega
theorem Ab.bounds{v:Vt}(h:Ab v):(0<=v.kind/\v.kind<=7)/\(0<=v.slot/\v.slot<=9)/\(0<=v.round/\v.round<=12)/\(0<=v.choice/\v.choice<=2)/\(0<=v.signer/\v.signer<=9)/\(0<=v.support/\v.support<=1023):=by
 obtain⟨h1,h2,_,h4,h5,h6,h7,h8⟩:=h;omega
def Gg(w:World)(e size n:Nat)(xs:List Value)(en:Ending)(w':World):Prop:=
 ∃A c,en= .returned (.tuple #[.slice A n c,.bool true])/\w'.ownsRow w.heap.size e size (.slice A n c) n xs/\ZN w w'
def C7(w:World)(en:Ending)(w':World):Prop:=en= .returned (.tuple #[.slice none 0 0,.bool false])/\ZN w w'
theorem FR(v:Vt)(w:World)(hv:v.ok)(hy:Ab v):Calls prog 49 #[v.val] w fun e w'=>e= .returned (.bool true)/\ZN w w':=
 (DA v w hv).mono fun _ _ h=>⟨by rw[h.1,decide_eq_true hy],h.2⟩
theorem Id(v:Vt)(w:World)(hv:v.ok)(hy:¬Ab v):Calls prog 49 #[v.val] w fun e w'=>e= .returned (.bool false)/\ZN w w':=
 (DA v w hv).mono fun _ _ h=>⟨by rw[h.1,decide_eq_false hy],h.2⟩
theorem Bk:(prog.info? 46).map (·.size)=some 22:=by kernel_rfl
theorem VZ(v:Vt)(w:World)(hv:v.ok)(hn:¬Ab v):Calls prog 165 #[v.val] w (C7 w):=by
 have Hn:=AA hn;clear hn;go_enter func165,ntmps165;go_wp2_with (refine wpList_load_row rfl 46 _ rfl w.heap.size rfl 46 v.cells (0,0) _ (heap_alloc_new w _) underlying46 rfl Bk ?_)
 refine(Id v _ hv Hn.out).mono ?_;rintro e w1 ⟨rfl,hb⟩;go_wp2;go_ret2;exact⟨rfl,((AC _ _).alloc (AB _) _).trans (hb.mono (by simp))⟩
theorem Kh(v:Vt)(w:World)(hv:v.ok)(hy:Ab v):Calls prog 165 #[v.val] w (Gg w 5 1 23 ((Ef v).map B)):=by
 obtain⟨⟨b1,b1'⟩,⟨b2,b2'⟩,⟨b3,b3'⟩,⟨b4,b4'⟩,⟨b5,b5'⟩,⟨b6,b6'⟩⟩:=hy.bounds;have Hy:=AA hy;clear hy;have hmk:∀W:World,(Instr.makeSlice 60 (.int .i64 0) (.int .i64 23)).run prog W= .ok (.slice (some ⟨W.heap.size,0,none⟩) 0 23) (W.alloc (.cells (Array.replicate 23 (.int .u8 0)) 5)):=fun W=>by kernel_rfl
 go_enter func165,ntmps165;go_wp2_with (refine wpList_load_row rfl 46 _ rfl w.heap.size rfl 46 v.cells (0,0) _ (heap_alloc_new w _) underlying46 rfl Bk ?_)
 refine(FR v _ hv Hy.out).mono ?_;rintro e w1 ⟨rfl,hb⟩;have hB1:Blk w1 w.heap.size 46 v.cells:=(Blk.new w _ _).below hb (by simp);have hb1:ZN w w1:=((AC _ _).alloc (AB _) _).trans (hb.mono (by simp));clear hb;have hlt:w.heap.size<w1.heap.size:=hB1.lt;have c0:w1.cell? ⟨w.heap.size,0,none⟩=some (I v.kind):=hB1.cell 0;have c1:w1.cell? ⟨w.heap.size,1,none⟩=some (I v.slot):=hB1.cell 1;have c2:w1.cell? ⟨w.heap.size,2,none⟩=some (I v.round):=hB1.cell 2;have c3:w1.cell? ⟨w.heap.size,3,none⟩=some (I v.choice):=hB1.cell 3;have c4:w1.cell? ⟨w.heap.size,4,none⟩=some (I v.signer):=hB1.cell 4;have c5:w1.cell? ⟨w.heap.size,5,none⟩=some (I v.support):=hB1.cell 5;go_wp2_with (at_builtin;refine Ar rfl (.tmp 9) (.tmp 25) _ rfl w.heap.size 5 (.int .u8 0) 1 1 underlying60 Bf rfl (by decide) (.slice (some ⟨w1.heap.size,0,none⟩) 0 23) 0 [] rfl ?r0 (w1.heap.size+2) _ 5 5 ((PV v).map B) rfl rfl ?r1 ?r2 ?r3 ?r4 ?r5 ?_)
 case r0=>exact World.ownsRow.alloc (World.ownsRow_made _ _ 23 hb1.size (by unfold maxLen;omega) (by simp)) _
 case r1=>
  have h:=Rd.of_blk (Blk.new (w1.alloc (Obj.cells (Array.replicate 23 (Value.int IntKind.u8 0)) 5)) 5 #[B (C5 v.kind),B (C5 v.slot),B (C5 v.round),B (C5 v.choice),B (C5 v.signer)]) 0 5;rw[C6 b1 (by omega),C6 b2 (by omega),C6 b3 (by omega),C6 b4 (by omega),C6 b5 (by omega)]at h;simp only[PV,List.map_cons,List.map_nil,C6 b1 (show v.kind<=255 by omega),C6 b2 (show v.slot<=255 by omega),C6 b3 (show v.round<=255 by omega),C6 b4 (show v.choice<=255 by omega),C6 b5 (show v.signer<=255 by omega)];simpa using h
 case r2=>exact fun u hu=>Ba hu
 case r3=>omega
 case r4=>unfold maxLen;omega
 case r5=>have:=hb1.size;simp;omega
 intro v2 w2 xG hg2 zO;have hB2:Blk w2 w.heap.size 46 v.cells:=((hB1.alloc _).alloc _).kept hg2 (by simp[Value.ownBlock];omega);have hb2:ZN w w2:=(((hb1.alloc hb1.size _).alloc (by have:=hb1.size;simp;omega) _)).grown hg2 (by have:=hb1.size;simp;omega) (by simp[Value.ownBlock];have:=hb1.size;omega);clear hg2 zO c0 c1 c2 c3 c4 c5 hlt hB1 hb1 hmk;obtain⟨A2,c2,rfl⟩:=Av xG;have c5:w2.cell? ⟨w.heap.size,5,none⟩=some (I v.support):=hB2.cell 5;go_wp2_with fail
 refine(Sm A2 5 c2 v.support _ w2 (by simp[PV]) (Rd.of_own xG) (fun u hu=>Ba hu) (by omega) b6).mono ?_;rintro e w3 ⟨A3,c3,rfl,xD,zY⟩;have hB3:Blk w3 w.heap.size 46 v.cells:=hB2.below zY hB2.lt;have hb3:ZN w w3:=hb2.trans (zY.mono hb2.size);replace xD:=BE xD hb2.size;clear zY hB2 hb2 xG c5;have hCZ:=hB3.lt;go_wp2_with (at_builtin;refine Ar rfl (.tmp 32) (.tmp 34) _ rfl w.heap.size 5 (.int .u8 0) 1 1 underlying60 Bf rfl (by decide) _ 7 ((PV v).map B++[B (BZ v.support.toNat 1),B (BZ v.support.toNat 0)]) rfl ?q0 (w3.heap.size) _ 8 8 (v.parent.bytes.map B) rfl rfl ?q1 ?q2 ?q3 ?q4 ?q5 ?_)
 case q0=>exact xD
 case q1=>exact Rd.of_blk hB3 6 8
 case q2=>exact fun u hu=>Ba hu
 case q3=>omega
 case q4=>unfold maxLen;omega
 case q5=>exact hb3.size
 intro v4 w4 xZ hg4 hEA;have hB4:Blk w4 w.heap.size 46 v.cells:=hB3.kept hg4 (CJ xD hB3 (by decide));have hb4:ZN w w4:=BJ hb3 xD hg4;clear hg4 hEA hB3 hb3 xD hCZ;have hlt4:=hB4.lt;go_wp2_with (at_builtin;refine Ar rfl (.tmp 36) (.tmp 38) _ rfl w.heap.size 5 (.int .u8 0) 1 1 underlying60 Bf rfl (by decide) _ (7+8) (((PV v).map B++[B (BZ v.support.toNat 1),B (BZ v.support.toNat 0)])++v.parent.bytes.map B) rfl ?p0 (w4.heap.size) _ 8 8 (v.value.bytes.map B) rfl rfl ?p1 ?p2 ?p3 ?p4 ?p5 ?_)
 case p0=>exact xZ
 case p1=>exact Rd.of_blk hB4 14 8
 case p2=>exact fun u hu=>Ba hu
 case p3=>omega
 case p4=>unfold maxLen;omega
 case p5=>exact hb4.size
 intro v5 w5 xW hg5 hat5;have hb5:ZN w w5:=BJ hb4 xZ hg5;clear hg5 hat5 hB4 hb4 xZ hlt4;obtain⟨A5,c5,rfl⟩:=Av xW;go_wp2;go_ret2;refine⟨A5,c5,rfl,?_,hb5⟩;have e:(Ef v).map B=((((PV v).map B++[B (BZ v.support.toNat 1),B (BZ v.support.toNat 0)])++v.parent.bytes.map B)++v.value.bytes.map B):=by simp[Ef,PV]
 rw[e];exact xW
theorem BT{P:Program}{ops:Array Oper}{rest:List Oper}{o:Oper}{a:Act}{w:World}{Q:Exit->Act->World->Prop}(hgd:o.guard=none)(ty:TypeId)(x:Operand)(ho:o.op= .load ty x)(g off:Nat)(hx:a.eval x= .pointer (some ⟨g,off,none⟩))(cs:Array Value)(d:TypeDesc)(hc:∀j u,cs[j]? =some u->w.cell? ⟨g,off+j,none⟩=some u)(hu:P.underlying ty=some d)(hd:d.isRow=true)(hi:(P.info? ty).map (·.size)=some cs.size)(h:wpList P ops Q rest (a.put o.dst (.agg cs)) w):wpList P ops Q (o::rest) a w:=by
 have e:cs.toList.toArray=cs:=by simp
 refine wpList_load_mid hgd ty x ho g off hx cs.toList d ?_ hu hd (by simpa using hi) (by rw[e];exact h);intro j u hj;exact hc j u (by simpa using hj)
structure Sg where
 vote:Vt
 sig:List UInt8
 A:Option Addr
 cap:Nat
namespace Sg
def cells(s:Sg):Array Value:=s.vote.cells.push (.slice s.A s.sig.length s.cap)
abbrev val(s:Sg):Value:=.agg s.cells
theorem size_cells(s:Sg):s.cells.size=23:=by simp[cells]
theorem cell_vote(s:Sg)(j:Nat)(u:Value)(h:s.vote.cells[j]? =some u):s.cells[j]? =some u:=by
 have hj:j<s.vote.cells.size:=by
  rcases Nat.lt_or_ge j s.vote.cells.size with h1|h1
  ·exact h1
  ·rw[Array.getElem?_eq_none h1]at h;cases h
 unfold cells;rw[Array.getElem?_push_lt hj,<-h,Array.getElem?_eq_getElem hj]
theorem cell_sig(s:Sg):s.cells[22]? =some (.slice s.A s.sig.length s.cap):=by
 unfold cells;rw[show 22=s.vote.cells.size from rfl,Array.getElem?_push_size]
end Sg
def D3(w:World)(B':Nat)(s:Sg):Prop:=s.vote.ok/\Rd w B' s.A (s.sig.map B)/\s.sig.length<=140737488351232
theorem D3.below{w w':World}{B':Nat}{s:Sg}(h:D3 w B' s)(hb:Below B' w w'):D3 w' B' s:=⟨h.1,h.2.1.below hb,h.2.2⟩
theorem D3.more{w:World}{B' B'':Nat}{s:Sg}(h:D3 w B' s)(hb:B'<=B''):D3 w B'' s:=⟨h.1,h.2.1.more hb,h.2.2⟩
theorem FT(w:World):Calls prog 199 #[.int .i64 2] w fun e w'=>e= .returned (.int .i64 370)/\w'=w:=by
 go_enter func199,ntmps199;go_wp2;go_ret;exact⟨rfl,rfl⟩
theorem TY(s:Sg)(w:World)(hs:D3 w w.heap.size s)(hn:¬Ab s.vote):Calls prog 153 #[s.val] w (C7 w):=by
 have Hn:=AA hn;clear hn;have HS:=AA hs;clear hs;go_enter func153,ntmps153;go_wp2_with (refine BT rfl 46 _ rfl w.heap.size 0 rfl s.vote.cells _ (fun j u hj=>by rw[Nat.zero_add,(Blk.new w _ _).cell];exact s.cell_vote j u hj) underlying46 rfl Bk ?_)
 refine(VZ s.vote _ HS.out.1 Hn.out).mono ?_;rintro e w1 ⟨rfl,hb⟩;go_wp2
 go_quiet (fail)
 go_wp2;go_ret2;exact⟨rfl,BL (((AC _ _).alloc (AB _) _).trans (hb.mono (by simp))) _⟩
theorem TZ(s:Sg)(w:World)(hs:D3 w w.heap.size s)(hy:Ab s.vote)(hn:s.sig.length≠370):Calls prog 153 #[s.val] w (C7 w):=by
 have Hy:=AA hy;clear hy;have HS:=AA hs;clear hs;go_enter func153,ntmps153;go_wp2_with (refine BT rfl 46 _ rfl w.heap.size 0 rfl s.vote.cells _ (fun j u hj=>by rw[Nat.zero_add,(Blk.new w _ _).cell];exact s.cell_vote j u hj) underlying46 rfl Bk ?_)
 refine(Kh s.vote _ HS.out.1 Hy.out).mono ?_;rintro e w1 ⟨A1,c1,rfl,xo,hb⟩;have hB1:Blk w1 w.heap.size 62 s.cells:=(Blk.new w _ _).below hb (by simp);have c22:w1.cell? ⟨w.heap.size,22,none⟩=some (.slice s.A s.sig.length s.cap):=(hB1.cell 22).trans s.cell_sig;have hne:((s.sig.length:Int) !=370)=true:=by rw[bne_iff_ne];omega
 go_wp2
 go_quiet ((go_at_call 199;exact Calls.quiet_of_same (FT _)))
 go_wp2;go_ret2;exact⟨rfl,BL (((AC _ _).alloc (AB _) _).trans (hb.mono (by simp))) _⟩
theorem Ie(s:Sg)(w:World)(hs:D3 w w.heap.size s)(hy:Ab s.vote)(hn:s.sig.length=370):Calls prog 153 #[s.val] w (Gg w 5 1 393 ((Ef s.vote++s.sig).map B)):=by
 have Hy:=AA hy;clear hy;have HS:=AA hs;clear hs;have HN:=AA hn;clear hn;have hne:((s.sig.length:Int) !=370)=false:=by rw[bne_eq_false_iff_eq,HN.out];rfl
 go_enter func153,ntmps153;go_wp2_with (refine BT rfl 46 _ rfl w.heap.size 0 rfl s.vote.cells _ (fun j u hj=>by rw[Nat.zero_add,(Blk.new w _ _).cell];exact s.cell_vote j u hj) underlying46 rfl Bk ?_)
 refine(Kh s.vote _ HS.out.1 Hy.out).mono ?_;rintro e w1 ⟨A1,c1,rfl,xo,hb⟩;have hB1:Blk w1 w.heap.size 62 s.cells:=(Blk.new w _ _).below hb (by simp);have hb1:ZN w w1:=((AC _ _).alloc (AB _) _).trans (hb.mono (by simp));replace xo:=BE xo (show w.heap.size<=_ by simp);clear hb;have c22:w1.cell? ⟨w.heap.size,22,none⟩=some (.slice s.A s.sig.length s.cap):=(hB1.cell 22).trans s.cell_sig;go_wp2
 go_quiet ((go_at_call 199;exact Calls.quiet_of_same (FT _)))
 go_wp2_with (at_builtin;refine Ar rfl (.tmp 21) (.tmp 23) _ rfl w.heap.size 5 (.int .u8 0) 1 1 underlying60 Bf rfl (by decide) (.slice A1 23 c1) 23 ((Ef s.vote).map B) rfl ?r0 w.heap.size s.A s.sig.length s.cap (s.sig.map B) rfl ?r1 ?r2 ?r3 ?r4 ?r5 ?r6 ?_)
 case r0=>exact xo
 case r1=>simp
 case r2=>exact(HS.out.2.1.below (BL hb1 _))
 case r3=>exact fun u hu=>Ba hu
 case r4=>rw[HN.out];omega
 case r5=>rw[HN.out];unfold maxLen;omega
 case r6=>exact hb1.size
 intro v2 w2 xG hg2 zO;have hb2:ZN w w2:=BJ (BL hb1 _) xo hg2;clear hg2 zO;obtain⟨A2,c2,rfl⟩:=Av xG;go_wp2;go_ret2;have e:23+s.sig.length=393:=by rw[HN.out]
 rw[e]at xG;refine⟨A2,c2,by rw[<-e];rfl,?_,hb2⟩;rw[Ae];exact xG
def Rn(l:List UInt8):List UInt8:=(l++[0,0,0,0,0,0,0,0]).take 8
def F9(l:List UInt8):Nat:=Cf (Rn l)
theorem Fk(x y k:Nat)(hx:x%2^k=0)(hy:y<2^k)(h:x+y<18446744073709551616):bits .or .u64 (x:Int) (y:Int)=((x+y:Nat):Int):=by
 have e:x=2^k*(x/2^k):=by have:=Nat.div_add_mod x (2^k);omega
 have:=Sk (x/2^k) y k hy (by rw[<-e];exact h);rw[<-e]at this;exact this
theorem Hu(b:UInt8)(p:Nat)(hp:256*p<=18446744073709551616):IntKind.u64.wrap (IntKind.u64.wrap (b.toNat:Int)*(p:Int))=((b.toNat*p:Nat):Int):=by
 have hb:=b.toNat_lt;have h1:b.toNat*p<256*p∨p=0:=by
  rcases Nat.eq_zero_or_pos p with h|h
  ·exact .inr h
  ·exact .inl (Nat.mul_lt_mul_of_pos_right hb h)
 have e1:IntKind.u64.wrap (b.toNat:Int)=(b.toNat:Int):=by rw[IntKind.wrap_u64];omega
 have e2:(b.toNat:Int)*(p:Int)=((b.toNat*p:Nat):Int):=(Int.natCast_mul ..).symm;rw[e1,e2,IntKind.wrap_u64];rcases h1 with h1|h1
 ·omega
 ·subst h1;simp
theorem Va(b:UInt8):IntKind.u64.wrap (b.toNat:Int)=((b.toNat:Nat):Int):=by
 have hb:=b.toNat_lt;rw[IntKind.wrap_u64];omega
theorem YT(b0 b1 b2 b3 b4 b5 b6 b7:UInt8):(bits .or .u64 (bits .or .u64 (bits .or .u64 (bits .or .u64 (bits .or .u64 (bits .or .u64 (bits .or .u64 (IntKind.u64.wrap (IntKind.u64.wrap (b0.toNat:Int)*72057594037927936)) (IntKind.u64.wrap (IntKind.u64.wrap (b1.toNat:Int)*281474976710656))) (IntKind.u64.wrap (IntKind.u64.wrap (b2.toNat:Int)*1099511627776))) (IntKind.u64.wrap (IntKind.u64.wrap (b3.toNat:Int)*4294967296))) (IntKind.u64.wrap (IntKind.u64.wrap (b4.toNat:Int)*16777216))) (IntKind.u64.wrap (IntKind.u64.wrap (b5.toNat:Int)*65536))) (IntKind.u64.wrap (IntKind.u64.wrap (b6.toNat:Int)*256))) (IntKind.u64.wrap (b7.toNat:Int)))=((F9 [b0,b1,b2,b3,b4,b5,b6,b7]:Nat):Int):=by
 have h0:=b0.toNat_lt;have h1:=b1.toNat_lt;have h2:=b2.toNat_lt;have h3:=b3.toNat_lt;have h4:=b4.toNat_lt;have h5:=b5.toNat_lt;have h6:=b6.toNat_lt;have h7:=b7.toNat_lt;have e0:IntKind.u64.wrap (IntKind.u64.wrap (b0.toNat:Int)*72057594037927936)=((b0.toNat*72057594037927936:Nat):Int):=Hu b0 72057594037927936 (by decide);have e1:IntKind.u64.wrap (IntKind.u64.wrap (b1.toNat:Int)*281474976710656)=((b1.toNat*281474976710656:Nat):Int):=Hu b1 281474976710656 (by decide);have e2:IntKind.u64.wrap (IntKind.u64.wrap (b2.toNat:Int)*1099511627776)=((b2.toNat*1099511627776:Nat):Int):=Hu b2 1099511627776 (by decide);have e3:IntKind.u64.wrap (IntKind.u64.wrap (b3.toNat:Int)*4294967296)=((b3.toNat*4294967296:Nat):Int):=Hu b3 4294967296 (by decide);have e4:IntKind.u64.wrap (IntKind.u64.wrap (b4.toNat:Int)*16777216)=((b4.toNat*16777216:Nat):Int):=Hu b4 16777216 (by decide);have e5:IntKind.u64.wrap (IntKind.u64.wrap (b5.toNat:Int)*65536)=((b5.toNat*65536:Nat):Int):=Hu b5 65536 (by decide);have e6:IntKind.u64.wrap (IntKind.u64.wrap (b6.toNat:Int)*256)=((b6.toNat*256:Nat):Int):=Hu b6 256 (by decide);have e7:=Va b7;rw[e0,e1,e2,e3,e4,e5,e6,e7];rw[Fk _ _ 56 (by omega) (by omega) (by omega)];rw[Fk _ _ 48 (by omega) (by omega) (by omega)];rw[Fk _ _ 40 (by omega) (by omega) (by omega)];rw[Fk _ _ 32 (by omega) (by omega) (by omega)];rw[Fk _ _ 24 (by omega) (by omega) (by omega)];rw[Fk _ _ 16 (by omega) (by omega) (by omega)];rw[Fk _ _ 8 (by omega) (by omega) (by omega)];simp[F9,Rn,Cf];omega
theorem Ro(b o n c:Nat)(b0 b1 b2 b3 b4 b5 b6 b7:UInt8)(w:World)(hn:8<=n)(hm:n<=9223372036854775807)(c0:w.cell? ⟨b,o,none⟩=some (B b0))(c1:w.cell? ⟨b,o+1,none⟩=some (B b1))(c2:w.cell? ⟨b,o+2,none⟩=some (B b2))(c3:w.cell? ⟨b,o+3,none⟩=some (B b3))(c4:w.cell? ⟨b,o+4,none⟩=some (B b4))(c5:w.cell? ⟨b,o+5,none⟩=some (B b5))(c6:w.cell? ⟨b,o+6,none⟩=some (B b6))(c7:w.cell? ⟨b,o+7,none⟩=some (B b7)):Calls prog 125 #[.slice (some ⟨b,o,none⟩) n c] w (Gb w (F9 [b0,b1,b2,b3,b4,b5,b6,b7])):=by
 have h8:(8:Int)<=(n:Int):=by omega
 have d8:decide ((8:Int)<=(n:Int))=true:=by simp;omega
 go_enter func125,ntmps125;go_wp2
 go_quiet (fail)
 go_wp2;go_ret;exact⟨QT (YT b0 b1 b2 b3 b4 b5 b6 b7),BL (AC _ _) _⟩
theorem Wl{l:List UInt8}(h:8<=l.length):∃b0 b1 b2 b3 b4 b5 b6 b7 r,l=b0::b1::b2::b3::b4::b5::b6::b7::r:=by
 match l,h with
 |b0::b1::b2::b3::b4::b5::b6::b7::r,_=>exact⟨b0,b1,b2,b3,b4,b5,b6,b7,r,rfl⟩
theorem Nw(b0 b1 b2 b3 b4 b5 b6 b7:UInt8)(r:List UInt8):F9 (b0::b1::b2::b3::b4::b5::b6::b7::r)=F9 [b0,b1,b2,b3,b4,b5,b6,b7]:=by
 simp[F9,Rn]
theorem Ag:(prog.info? 24).map (·.size)=some 8:=by kernel_rfl
theorem Vb{l:List UInt8}(h:l.length=8):∃n:Nm,n.bytes=l:=by
 match l,h with
 |[b0,b1,b2,b3,b4,b5,b6,b7],_=>exact⟨⟨b0,b1,b2,b3,b4,b5,b6,b7⟩,rfl⟩
theorem Nx(l:List UInt8):(Rn l).length=8:=by simp[Rn]
theorem PW(A:Option Addr)(c:Nat)(l:List UInt8)(w:World)(hr:Rd w w.heap.size A (l.map B))(hl:l.length<8):Calls prog 125 #[.slice A l.length c] w (Gb w (F9 l)):=by
 obtain⟨xs,hxs⟩:=ZH (l.map B);have h1:∀u∈xs,u.oneCell'=true:=by rw[hxs];exact fun u hu=>Ba hu
 rw[<-hxs]at hr;have Hx:=AA hxs;clear hxs;obtain⟨n,hn⟩:=Vb (Nx l);have Hn:=AA hn;clear hn;have Hl:=AA hl;have d8:decide ((8:Int)<=(l.length:Int))=false:=by simp;omega
 have hi:(l.length:Int)<8:=by omega
 have hHQ:min 8 l.length=l.length:=by omega
 have Hmin:=AA hHQ;clear hHQ;clear hl;go_enter func125,ntmps125;go_wp2_with (refine wpList_copy_splice rfl (.tmp 53) (.tmp 54) _ _ rfl 5 underlying60 (by kernel_rfl) _ _ _ _ _ _ rfl rfl w.heap.size 0 [.int .u8 0,.int .u8 0,.int .u8 0,.int .u8 0,.int .u8 0,.int .u8 0,.int .u8 0,.int .u8 0] 24 ?h1 xs ?h2 ?h3 ?h4 h1 w.heap.size w ?h5 (AB _) ?_)
 case h1=>exact heap_alloc_new w _
 case h2=>
  have:=Hl.out;have h2:xs.length=l.length:=by rw[Hx.out];simp
  rw[h2];exact(Nat.min_eq_left (by omega)).symm
 case h3=>
  intro hp;obtain⟨b,o,rfl,hb,hc⟩:=hr.cells (by rintro rfl;simp at hp);refine⟨_,rfl,fun j v hv=>?_⟩;rw[Addr.add_mid,World.cell?_alloc_lt _ _ _ hb];exact hc j v hv
 case h4=>
  have:=Hl.out;have h2:xs.length=l.length:=by rw[Hx.out];simp
  simp[h2];omega
 case h5=>exact(AC _ _).alloc (AB _) _
 intro w1 hg hb;have hB1:Blk w1 w.heap.size 24 #[B n.b0,B n.b1,B n.b2,B n.b3,B n.b4,B n.b5,B n.b6,B n.b7]:=by
  have e:(splice [Value.int .u8 0,.int .u8 0,.int .u8 0,.int .u8 0,.int .u8 0,.int .u8 0,.int .u8 0,.int .u8 0] 0 xs)=[B n.b0,B n.b1,B n.b2,B n.b3,B n.b4,B n.b5,B n.b6,B n.b7]:=by
   have h3:n.bytes.map B=[B n.b0,B n.b1,B n.b2,B n.b3,B n.b4,B n.b5,B n.b6,B n.b7]:=rfl;rw[<-h3,Hn.out,Hx.out];have:=Hl.out
   match l,this with
   |[],_=>rfl
   |[a],_=>rfl
   |[a,b],_=>rfl
   |[a,b,c],_=>rfl
   |[a,b,c,d],_=>rfl
   |[a,b,c,d,e],_=>rfl
   |[a,b,c,d,e,f],_=>rfl
   |[a,b,c,d,e,f,g],_=>rfl
  have h4:=hg.out;rw[e]at h4;exact h4
 clear hg;go_wp2_with (refine BT rfl 24 (.tmp 3) rfl w.heap.size 0 rfl #[B n.b0,B n.b1,B n.b2,B n.b3,B n.b4,B n.b5,B n.b6,B n.b7] _ (fun j u hj=>by rw[Nat.zero_add,hB1.cell];exact hj) underlying24 rfl Ag ?_)
 refine(Hi n _).mono ?_;rintro e w2 ⟨rfl,hb2⟩;go_wp2;go_ret;refine⟨?_,hb.trans (hb2.mono hb.size)⟩;have e:F9 l=Cf n.bytes:=by rw[Hn.out];rfl
 rw[e];rfl
theorem Ta(A:Option Addr)(c:Nat)(l:List UInt8)(w:World)(hr:Rd w w.heap.size A (l.map B))(hm:l.length<=9223372036854775807):Calls prog 125 #[.slice A l.length c] w (Gb w (F9 l)):=by
 by_cases h:l.length<8
 ·exact PW A c l w hr h
 ·obtain⟨b0,b1,b2,b3,b4,b5,b6,b7,r,rfl⟩:=Wl (show 8<=l.length by omega);obtain⟨b,o,rfl,_,hc⟩:=hr.cells (by simp);rw[Nw];exact Ro b o _ c b0 b1 b2 b3 b4 b5 b6 b7 w (by simp) hm (hc 0 _ rfl) (hc 1 _ rfl) (hc 2 _ rfl) (hc 3 _ rfl) (hc 4 _ rfl) (hc 5 _ rfl) (hc 6 _ rfl) (hc 7 _ rfl)
def Ki(l:List UInt8):UInt64:=UInt64.ofNat (F9 l)
theorem Tb(l:List UInt8):F9 l<18446744073709551616:=by
 have:=J8 (Rn l);rw[Nx]at this;exact this
theorem Ny(l:List UInt8):(Ki l).toNat=F9 l:=by
 rw[Ki,UInt64.toNat_ofNat'];exact Nat.mod_eq_of_lt (Tb l)
def stK(l:List UInt8):Nat->UInt64×UInt64
 |0=>(0x243f6a8885a308d3,0x13198a2e03707344)
 |k+1=>GF 2 ((stK l k).1^^^Ki (l.drop (8*k)),(stK l k).2)
def fin(l:List UInt8):UInt64×UInt64:=
 let s:=stK l ((l.length+7)/8)
 GF 4 (s.1,s.2^^^UInt64.ofNat l.length)
def Dh(l:List UInt8):Nm:=ofN ((fin l).1^^^(fin l).2).toNat
theorem XX(A:Option Addr)(n c:Nat)(l:List UInt8)(w:World)(hl:l.length=n)(hr:Rd w w.heap.size A (l.map B))(hm:l.length<=9223372036854775807):Calls prog 125 #[.slice A n c] w fun e w'=>e= .returned (U (Ki l))/\ZN w w':=by
 subst hl;exact(Ta A c l w hr hm).mono fun e w' h=>⟨by rw[h.1,<-Ny],h.2⟩
theorem Yz(x y:UInt64)(b:Nat)(w:World)(hb:Blk w b 193 #[U x,U y]):Calls prog 126 #[.pointer (some ⟨b,0,none⟩),.int .i64 2] w fun e w'=>e= .returned (.tuple #[])/\Blk w' b 193 #[U (GF 2 (x,y)).1,U (GF 2 (x,y)).2]/\w.grownBy w' (some b)/\w'.heap.size=w.heap.size:=QU 2 x y b w (by omega) hb
theorem Y0(x y:UInt64)(b:Nat)(w:World)(hb:Blk w b 193 #[U x,U y]):Calls prog 126 #[.pointer (some ⟨b,0,none⟩),.int .i64 4] w fun e w'=>e= .returned (.tuple #[])/\Blk w' b 193 #[U (GF 4 (x,y)).1,U (GF 4 (x,y)).2]/\w.grownBy w' (some b)/\w'.heap.size=w.heap.size:=QU 4 x y b w (by omega) hb
theorem Vc(y:UInt64)(n:Nat)(h:n<18446744073709551616):bits .xor .u64 (y.toNat:Int) (n:Int)=((y^^^UInt64.ofNat n).toNat:Int):=by
 have e:(n:Int)=((UInt64.ofNat n).toNat:Int):=by rw[UInt64.toNat_ofNat',Nat.mod_eq_of_lt h]
 rw[e,QR]
theorem Rd.cut{w:World}{B':Nat}{A:Option Addr}{xs:List Value}(h:Rd w B' A xs)(k cap:Nat)(hc:xs.length<=cap):Rd w B' (if cap=k then A else A.map (·.add k)) (xs.drop k):=by
 by_cases hk:xs.length<=k
 ·exact .inl (List.drop_eq_nil_of_le hk)
 ·obtain⟨b,o,rfl,hb,xH⟩:=h.cells (by rintro rfl;simp at hk);rw[if_neg (by omega)];refine .inr ⟨b,o+k,by simp[Addr.add_mid],hb,fun j u hu=>?_⟩;rw[List.getElem?_drop]at hu;rw[Nat.add_assoc];exact xH _ u hu
theorem Vd(A:Option Addr)(c:Nat)(l:List UInt8)(w:World)(hr:Rd w w.heap.size A (l.map B))(hm:l.length<=c)(_hc:c<=maxLen)(hlen:l.length<=1000000000000):Calls prog 85 #[.slice A l.length c] w (BM w (Dh l)):=by
 have HR:=AA hr;clear hr;unfold maxLen at _hc;go_enter func85,ntmps85;go_wp2
 go_loopw [4] (fun i wr=>∃k:Nat,8*k<=l.length+7/\i= .int .i64 ((8*k:Nat):Int)/\Blk wr (w.heap.size+1) 193 #[U (stK l k).1,U (stK l k).2]/\(∃z,Blk wr w.heap.size 24 z/\z.size=8)/\ZN w wr)
  (fun i _=>l.length+8-(intOf i).toNat)
 case atStart=>
  refine⟨0,by omega,rfl,?_,⟨_,(Blk.new w _ _).alloc _,rfl⟩,((AC _ _).alloc (AB _) _).alloc (by simp) _⟩;have:=Blk.new (w.alloc (.cells #[.int .u8 0,.int .u8 0,.int .u8 0,.int .u8 0,.int .u8 0,.int .u8 0,.int .u8 0,.int .u8 0] 24)) 193 #[.int .u64 2611923443488327891,.int .u64 1376283091369227076];have e:(#[U (stK l 0).1,U (stK l 0).2]:Array Value)=#[.int .u64 2611923443488327891,.int .u64 1376283091369227076]:=rfl;rw[e];simpa using this
 case round=>
  obtain⟨k,hk,rfl,hB,⟨z,hZ,hz⟩,hbw⟩:=hrel;have Hz:=AA hz;clear hz;by_cases hlt:8*k<l.length
  ·have Hst:Hid (stK l (k+1)=GF 2 ((stK l k).1^^^Ki (l.drop (8*k)),(stK l k).2)):=rfl;generalize hs:stK l k=s at*;obtain⟨x,y⟩:=s;have Hs:=AA hs;clear hs;obtain⟨b,o,rfl,hbo,xH⟩:=HR.out.cells (by rintro h;simp at h;subst h;simp at hlt);have hrd:Rd wr wr.heap.size (some ⟨b,o+8*k,none⟩) ((l.drop (8*k)).map B):=by
    have h1:=((HR.out.below hbw).more hbw.size).cut (8*k) c (by simpa using hm);rw[if_neg (by omega)]at h1;simpa[Addr.add_mid,List.map_drop]using h1
   have Hrd:=AA hrd;clear hrd;have yz:=AA xH;clear xH;have hcne:¬c=8*k:=by omega
   have c0:wr.cell? ⟨w.heap.size+1,0,none⟩=some (U x):=hB.cell 0;have f0:=hB.frozen 0;go_wp2;have i1:(0:Int)<=8*(k:Int):=by omega
   have i2:8*(k:Int)<=(l.length:Int):=by omega
   have i3:(8*(k:Int)).toNat=8*k:=by omega
   have HW:Hid (Calls prog 125 #[.slice (some ⟨b,o+8*k,none⟩) (l.length-8*k) (c-8*k)] wr.drew fun e w'=>e= .returned (U (Ki (l.drop (8*k))))/\ZN wr w'/\w'.cell? ⟨w.heap.size+1,0,none⟩=some (U x)/\w'.frozen? ⟨w.heap.size+1,0,none⟩=false):=by
    refine(XX _ _ _ (l.drop (8*k)) _ (by simp) Hrd.out.drew (by simp;omega)).mono ?_;rintro e w' ⟨rfl,hb'⟩;exact⟨rfl,(AC _ _).drew.trans hb',(hb'.cell (p:=⟨w.heap.size+1,0,none⟩) hB.lt).trans c0,(hb'.frozen (p:=⟨w.heap.size+1,0,none⟩) hB.lt).trans f0⟩
   go_region_with ((go_at_call 125;refine HW.out.mono ?_;rintro e w' ⟨rfl,hb',c0',f0'⟩))
   all_goals
    simp only[QR];generalize hx2:x^^^Ki (l.drop (8*k))=x2 at*;have Hx2:=AA hx2;clear hx2;have hB':=(hB.below hb' hB.lt).put 0 (U x2);have hZ':=(hZ.below hb' hZ.lt).far (p:=⟨w.heap.size+1,0,none⟩) (by simp) (U x2);have hAA:=(hbw.trans (hb'.mono hbw.size)).setCell (p:=⟨w.heap.size+1,0,none⟩) (by simp) (U x2);generalize w'.setCell ⟨w.heap.size+1,0,none⟩ (U x2)=w3 at*;clear hB hZ hbw hb' c0 c0' f0 f0' HW Hrd;go_wp2_with fail
    refine(Yz x2 y _ _ hB').mono ?_;rintro e w4 ⟨rfl,hB4,hg4,hs4⟩;have hZ4:=hZ'.kept hg4 (by simp);have xE:ZN w w4:=hAA.grown hg4 hAA.size (by rintro j ⟨⟩;omega);clear hZ' hAA hB' hg4;go_wp2_with fail
    go_roundw
    case rel=>
     refine⟨k+1,by omega,by go_num,?_,⟨z,hZ4,Hz.out⟩,xE⟩;rw[Hst.out];exact hB4
    case measure=>simp[intOf];omega
  ·obtain rfl:k=(l.length+7)/8:=by omega
   have hBH:fin l=GF 4 ((stK l ((l.length+7)/8)).1,(stK l ((l.length+7)/8)).2^^^UInt64.ofNat l.length):=rfl;have Hfin:=AA hBH;clear hBH;generalize hs:stK l ((l.length+7)/8)=s at*;obtain⟨x,y⟩:=s;have Hs:=AA hs;clear hs;have c1:wr.cell? ⟨w.heap.size+1,1,none⟩=some (U y):=hB.cell 1;have f1:=hB.frozen 1;have hl0:(0:Int)<=(l.length:Int):=by omega
   go_wp2_with fail
   simp only[Vc y l.length (by omega)];generalize hy2:y^^^UInt64.ofNat l.length=y2 at*;have Hy2:=AA hy2;clear hy2;have hB':=hB.put 1 (U y2);have hZ':=hZ.far (p:=⟨w.heap.size+1,1,none⟩) (by simp) (U y2);have hAA:=hbw.setCell (p:=⟨w.heap.size+1,1,none⟩) (by simp) (U y2);generalize wr.setCell ⟨w.heap.size+1,1,none⟩ (U y2)=w3 at*;clear hB hZ hbw c1 f1;refine(Y0 x y2 _ _ hB').mono ?_;rintro e w4 ⟨rfl,hB4,hg4,hs4⟩;have hZ4:=hZ'.kept hg4 (by simp);have xE:ZN w w4:=hAA.grown hg4 hAA.size (by rintro j ⟨⟩;omega);clear hZ' hAA hB' hg4;generalize hf:GF 4 (x,y2)=f at*;obtain⟨fx,fy⟩:=f;have Hf:=AA hf;clear hf;have c0:w4.cell? ⟨w.heap.size+1,0,none⟩=some (U fx):=hB4.cell 0;have c1:w4.cell? ⟨w.heap.size+1,1,none⟩=some (U fy):=hB4.cell 1;go_wp2_with fail
   simp only[QR];generalize hq:fx^^^fy=q at*;have Hq:=AA hq;clear hq;refine(XB q.toNat _).mono ?_;generalize hr:ofN q.toNat=r;have Hr:=AA hr;clear hr;rintro e w5 ⟨rfl,hb5⟩;have hZ5:=hZ4.below hb5 hZ4.lt;have xP:=xE.trans (hb5.mono xE.size);clear hZ4 xE hb5 hB4 c0 c1;go_wp2_with (refine AI rfl 24 (.tmp 2) (.tmp 34) rfl w.heap.size _ rfl rfl 24 z hZ5 ?s1 Ag ?s2 ?_)
   case s1=>rw[Hz.out];rfl
   case s2=>exact⟨rfl,rfl,rfl,rfl,rfl,rfl,rfl,rfl⟩
   intro w6 hZ6 hg6 hs6;have xY:ZN w w6:=xP.grown hg6 xP.size (by rintro j ⟨⟩;omega);go_wp2;refine bodyPost_ret (results_cell_row (g:=w.heap.size) rfl _ _ _ _ _ _ rfl hZ6 underlying24 rfl Ag) rfl ⟨?_,xY⟩;have e:Dh l=r:=by rw[Dh,Hfin.out,<-Hr.out,<-Hq.out]
   rw[e]
def If:Array Value:=madeCells #[.int .u8 0] 160
theorem Ve:If.size=160:=size_madeCells _ _
theorem YU(W:World):(Instr.makeSlice 60 (.int .i64 0) (.int .i64 160)).run prog W= .ok (.slice (some ⟨W.heap.size,0,none⟩) 0 160) (W.alloc (.cells If 5)):=by
 obtain⟨i0,hi,hz0,hz1,hz2⟩:=info_parts Bf;have:=run_make (P:=prog) W 60 5 i0 (.int .u8 0) underlying60 hi hz0 .i64 .i64 0 160 (by omega) (by omega) (by rw[hz2];omega) (by omega);rw[this,hz1];rfl
theorem Ql{w:World}{base e size n:Nat}{v:Value}{xs:List Value}(h:w.ownsRow base e size v n xs)(hn:0<n):∃A c,v= .slice A n c/\n<=c/\c<=maxLen:=by
 rcases h.2 with⟨rfl,rfl⟩|⟨g,cap,cur,rfl,_,_,h1,h2,_⟩
 ·omega
 ·exact⟨_,_,rfl,h1,h2⟩
theorem CE(t:UInt8)(A:Option Addr)(c:Nat)(l:List UInt8)(r:Nm)(w:World)(hr:Rd w w.heap.size A (l.map B))(hlen:l.length<=1000000000)(ze:Dh (t::l)=r):Calls prog 50 #[B t,.slice A l.length c] w (BM w r):=by
 have HS:=AA ze;clear ze;have HR:=AA hr;clear hr;have hmk:=YU;obtain⟨xs,hxs⟩:=ZH (l.map B);have Hx:=AA hxs;clear hxs;go_enter func50,ntmps50;go_wp2_with (at_builtin;refine Ar rfl (.tmp 7) (.tmp 9) _ rfl w.heap.size 5 (.int .u8 0) 1 1 underlying60 Bf rfl (by decide) (.slice (some ⟨w.heap.size+1,0,none⟩) 0 160) 0 [] rfl ?r0 (w.heap.size+3) _ 1 1 [B t] rfl rfl ?r1 ?r2 ?r3 ?r4 ?r5 ?_)
 case r0=>
  have h:=World.ownsRow_made (base:=w.heap.size) (e:=5) (size:=1) (w.alloc (.cells #[.int .u8 0,.int .u8 0,.int .u8 0,.int .u8 0,.int .u8 0,.int .u8 0,.int .u8 0,.int .u8 0] 24)) If 160 (by simp) (by unfold maxLen;omega) (by rw[Ve]);have h2:=h.alloc (.cells #[B t] 5);simpa using h2
 case r1=>
  have h:=Rd.one ((w.alloc (.cells #[.int .u8 0,.int .u8 0,.int .u8 0,.int .u8 0,.int .u8 0,.int .u8 0,.int .u8 0,.int .u8 0] 24)).alloc (.cells If 5)) (B t) 5;simpa using h
 case r2=>exact fun u hu=>IV hu rfl
 case r3=>omega
 case r4=>unfold maxLen;omega
 case r5=>simp;omega
 intro v1 w1 xo hg1 hat1;have hZ1:Blk w1 w.heap.size 24 #[.int .u8 0,.int .u8 0,.int .u8 0,.int .u8 0,.int .u8 0,.int .u8 0,.int .u8 0,.int .u8 0]:=(((Blk.new w _ _).alloc _).alloc _).kept hg1 (by simp[Value.ownBlock]);have hb1:ZN w w1:=((((AC _ _).alloc (AB _) _).alloc (by simp) _).alloc (by simp;omega) _).grown hg1 (by simp;omega) (by rintro j hj;simp[Value.ownBlock]at hj;omega);clear hg1 hat1 hmk;go_wp2_with (at_builtin;refine Ar rfl (.tmp 10) (.tmp 11) _ rfl w.heap.size 5 (.int .u8 0) 1 1 underlying60 Bf rfl (by decide) _ 1 [B t] rfl ?q0 w.heap.size A l.length c xs rfl ?q1 ?q2 ?q3 ?q4 ?q5 ?q6 ?_)
 case q0=>exact xo
 case q1=>rw[Hx.out];simp
 case q2=>rw[Hx.out];exact HR.out.below hb1
 case q3=>rw[Hx.out];exact fun u hu=>Ba hu
 case q4=>omega
 case q5=>unfold maxLen;omega
 case q6=>exact hb1.size
 intro v2 w2 xG hg2 zO;have hZ2:=hZ1.kept hg2 (CJ xo hZ1 (by decide));have hb2:=BJ hb1 xo hg2;clear hg2 zO hZ1 hb1 xo;have e:[B t]++xs=(t::l).map B:=by rw[Hx.out];simp
 have xD:w2.ownsRow w.heap.size 5 1 v2 (t::l).length ((t::l).map B):=by
  rw[<-e,Ah,Nat.add_comm];exact xG
 clear e xG;rcases Ql xD (by simp)with⟨A2,c2,rfl,hc2,hm2⟩
 go_wp2_with fail
 have xO:Calls prog 85 #[.slice A2 (l.length+1) c2] w2 (BM w2 r):=by
  rw[<-HS.out];exact Vd A2 c2 (t::l) w2 (Rd.of_own xD) hc2 hm2 (by simp;omega)
 refine xO.mono ?_;clear xO;rintro en w5 ⟨rfl,hb5⟩;have hZ5:=hZ2.below hb5 hZ2.lt;have xP:=hb2.trans (hb5.mono hb2.size);clear hZ2 hb2 hb5 xD;go_wp2_with (refine AI rfl 24 (.tmp 4) (.tmp 13) rfl w.heap.size _ rfl rfl 24 _ hZ5 rfl Ag ?s2 ?_)
 case s2=>exact⟨rfl,rfl,rfl,rfl,rfl,rfl,rfl,rfl⟩
 intro w6 hZ6 hg6 hs6;have xY:ZN w w6:=xP.grown hg6 xP.size (by rintro j ⟨⟩;omega);go_wp2;exact bodyPost_ret (results_cell_row (g:=w.heap.size) rfl _ _ _ _ _ _ rfl hZ6 underlying24 rfl Ag) rfl ⟨rfl,xY⟩
def Tc(t:UInt8)(x y:Nm):Nm:=Dh (t::(x.bytes++y.bytes))
abbrev Nm.cells(n:Nm):Array Value:=#[B n.b0,B n.b1,B n.b2,B n.b3,B n.b4,B n.b5,B n.b6,B n.b7]
theorem JG(t:UInt8)(x y r:Nm)(w:World)(ze:Dh (t::(x.bytes++y.bytes))=r):Calls prog 138 #[B t,x.val,y.val] w (BM w r):=by
 have HS:=AA ze;clear ze;go_enter func138,ntmps138;go_wp2;have hX:Blk ((((w.alloc (Obj.cells x.cells 24)).alloc (Obj.cells y.cells 24)).alloc (Obj.cells #[.int .u8 0,.int .u8 0,.int .u8 0,.int .u8 0,.int .u8 0,.int .u8 0,.int .u8 0,.int .u8 0] 24)).alloc (Obj.cells #[.int .u8 0,.int .u8 0,.int .u8 0,.int .u8 0,.int .u8 0,.int .u8 0,.int .u8 0,.int .u8 0,.int .u8 0,.int .u8 0,.int .u8 0,.int .u8 0,.int .u8 0,.int .u8 0,.int .u8 0,.int .u8 0] 245)) w.heap.size 24 x.cells:=(((Blk.new w _ _).alloc _).alloc _).alloc _;have hY:Blk ((((w.alloc (Obj.cells x.cells 24)).alloc (Obj.cells y.cells 24)).alloc (Obj.cells #[.int .u8 0,.int .u8 0,.int .u8 0,.int .u8 0,.int .u8 0,.int .u8 0,.int .u8 0,.int .u8 0] 24)).alloc (Obj.cells #[.int .u8 0,.int .u8 0,.int .u8 0,.int .u8 0,.int .u8 0,.int .u8 0,.int .u8 0,.int .u8 0,.int .u8 0,.int .u8 0,.int .u8 0,.int .u8 0,.int .u8 0,.int .u8 0,.int .u8 0,.int .u8 0] 245)) (w.heap.size+1) 24 y.cells:=by
  have:=((Blk.new (w.alloc (Obj.cells x.cells 24)) 24 y.cells).alloc (Obj.cells #[.int .u8 0,.int .u8 0,.int .u8 0,.int .u8 0,.int .u8 0,.int .u8 0,.int .u8 0,.int .u8 0] 24)).alloc (Obj.cells #[.int .u8 0,.int .u8 0,.int .u8 0,.int .u8 0,.int .u8 0,.int .u8 0,.int .u8 0,.int .u8 0,.int .u8 0,.int .u8 0,.int .u8 0,.int .u8 0,.int .u8 0,.int .u8 0,.int .u8 0,.int .u8 0] 245);simpa using this
 have hR:Blk ((((w.alloc (Obj.cells x.cells 24)).alloc (Obj.cells y.cells 24)).alloc (Obj.cells #[.int .u8 0,.int .u8 0,.int .u8 0,.int .u8 0,.int .u8 0,.int .u8 0,.int .u8 0,.int .u8 0] 24)).alloc (Obj.cells #[.int .u8 0,.int .u8 0,.int .u8 0,.int .u8 0,.int .u8 0,.int .u8 0,.int .u8 0,.int .u8 0,.int .u8 0,.int .u8 0,.int .u8 0,.int .u8 0,.int .u8 0,.int .u8 0,.int .u8 0,.int .u8 0] 245)) (w.heap.size+1+1) 24 #[.int .u8 0,.int .u8 0,.int .u8 0,.int .u8 0,.int .u8 0,.int .u8 0,.int .u8 0,.int .u8 0]:=by
  have:=((Blk.new ((w.alloc (Obj.cells x.cells 24)).alloc (Obj.cells y.cells 24)) 24 #[.int .u8 0,.int .u8 0,.int .u8 0,.int .u8 0,.int .u8 0,.int .u8 0,.int .u8 0,.int .u8 0])).alloc (Obj.cells #[.int .u8 0,.int .u8 0,.int .u8 0,.int .u8 0,.int .u8 0,.int .u8 0,.int .u8 0,.int .u8 0,.int .u8 0,.int .u8 0,.int .u8 0,.int .u8 0,.int .u8 0,.int .u8 0,.int .u8 0,.int .u8 0] 245);simpa using this
 have hD:Blk ((((w.alloc (Obj.cells x.cells 24)).alloc (Obj.cells y.cells 24)).alloc (Obj.cells #[.int .u8 0,.int .u8 0,.int .u8 0,.int .u8 0,.int .u8 0,.int .u8 0,.int .u8 0,.int .u8 0] 24)).alloc (Obj.cells #[.int .u8 0,.int .u8 0,.int .u8 0,.int .u8 0,.int .u8 0,.int .u8 0,.int .u8 0,.int .u8 0,.int .u8 0,.int .u8 0,.int .u8 0,.int .u8 0,.int .u8 0,.int .u8 0,.int .u8 0,.int .u8 0] 245)) (w.heap.size+1+1+1) 245 [Value.int .u8 0,Value.int .u8 0,Value.int .u8 0,Value.int .u8 0,Value.int .u8 0,Value.int .u8 0,Value.int .u8 0,Value.int .u8 0,Value.int .u8 0,Value.int .u8 0,Value.int .u8 0,Value.int .u8 0,Value.int .u8 0,Value.int .u8 0,Value.int .u8 0,Value.int .u8 0].toArray:=by
  have:=(Blk.new (((w.alloc (Obj.cells x.cells 24)).alloc (Obj.cells y.cells 24)).alloc (Obj.cells #[.int .u8 0,.int .u8 0,.int .u8 0,.int .u8 0,.int .u8 0,.int .u8 0,.int .u8 0,.int .u8 0] 24)) 245 #[.int .u8 0,.int .u8 0,.int .u8 0,.int .u8 0,.int .u8 0,.int .u8 0,.int .u8 0,.int .u8 0,.int .u8 0,.int .u8 0,.int .u8 0,.int .u8 0,.int .u8 0,.int .u8 0,.int .u8 0,.int .u8 0]);simpa using this
 have hbW:ZN w ((((w.alloc (Obj.cells x.cells 24)).alloc (Obj.cells y.cells 24)).alloc (Obj.cells #[.int .u8 0,.int .u8 0,.int .u8 0,.int .u8 0,.int .u8 0,.int .u8 0,.int .u8 0,.int .u8 0] 24)).alloc (Obj.cells #[.int .u8 0,.int .u8 0,.int .u8 0,.int .u8 0,.int .u8 0,.int .u8 0,.int .u8 0,.int .u8 0,.int .u8 0,.int .u8 0,.int .u8 0,.int .u8 0,.int .u8 0,.int .u8 0,.int .u8 0,.int .u8 0] 245)):=((((AC _ _).alloc (AB _) _).alloc (by simp) _).alloc (by simp;omega) _).alloc (by simp;omega) _;generalize ((((w.alloc (Obj.cells x.cells 24)).alloc (Obj.cells y.cells 24)).alloc (Obj.cells #[.int .u8 0,.int .u8 0,.int .u8 0,.int .u8 0,.int .u8 0,.int .u8 0,.int .u8 0,.int .u8 0] 24)).alloc (Obj.cells #[.int .u8 0,.int .u8 0,.int .u8 0,.int .u8 0,.int .u8 0,.int .u8 0,.int .u8 0,.int .u8 0,.int .u8 0,.int .u8 0,.int .u8 0,.int .u8 0,.int .u8 0,.int .u8 0,.int .u8 0,.int .u8 0] 245))=W at*;refine wp_region_still_tail 2 (by kernel_rfl) (by kernel_rfl) ?_;simp only[List.take_succ_cons,List.take_zero,List.drop_succ_cons,List.drop_zero]
 iterate 2 still_step
 refine wpStill_nil ?_;change wpList _ _ _ _ _ W.drew;replace hX:=hX.drew;replace hY:=hY.drew;replace hR:=hR.drew;replace hD:=hD.drew;replace hbW:=hbW.drew;generalize W.drew=W1 at*;refine wpList_copy_splice rfl (.tmp 8) (.tmp 9) _ _ rfl 5 underlying60 (by kernel_rfl) _ _ _ _ _ _ rfl rfl (w.heap.size+1+1+1) 0 [Value.int .u8 0,Value.int .u8 0,Value.int .u8 0,Value.int .u8 0,Value.int .u8 0,Value.int .u8 0,Value.int .u8 0,Value.int .u8 0,Value.int .u8 0,Value.int .u8 0,Value.int .u8 0,Value.int .u8 0,Value.int .u8 0,Value.int .u8 0,Value.int .u8 0,Value.int .u8 0] 245 hD (x.bytes.map B) rfl ?h3 (by simp[Nm.bytes]) (fun u hu=>Ba hu) (w.heap.size+1+1+1) W1 (AC _ _) (AB _) ?_
 case h3=>
  intro _;refine⟨rfl,_,rfl,fun j v hv=>?_⟩;rw[Addr.add_mid,hX.cell,Nat.zero_add];simpa[Nm.bytes]using hv
 intro w2 hg2 hb2;have hY2:=hY.below hb2 (by omega);have hR2:=hR.below hb2 (by omega);have xB:=hbW.trans (hb2.mono (by omega));have hD2:Blk w2 (w.heap.size+1+1+1) 245 (x.bytes.map B++[Value.int .u8 0,Value.int .u8 0,Value.int .u8 0,Value.int .u8 0,Value.int .u8 0,Value.int .u8 0,Value.int .u8 0,Value.int .u8 0,Value.int .u8 0,Value.int .u8 0,Value.int .u8 0,Value.int .u8 0,Value.int .u8 0,Value.int .u8 0,Value.int .u8 0,Value.int .u8 0].drop 8).toArray:=hg2.out;clear hX hY hR hD hbW hb2 hg2;go_frame;go_wp2;refine wp_region_still_tail 2 (by kernel_rfl) (by kernel_rfl) ?_;simp only[List.take_succ_cons,List.take_zero,List.drop_succ_cons,List.drop_zero]
 iterate 2 still_step
 refine wpStill_nil ?_;change wpList _ _ _ _ _ w2.drew;replace hY2:=hY2.drew;replace hR2:=hR2.drew;replace hD2:=hD2.drew;replace xB:=xB.drew;generalize w2.drew=w3 at*;refine wpList_copy_splice rfl (.tmp 11) (.tmp 12) _ _ rfl 5 underlying60 (by kernel_rfl) _ _ _ _ _ _ rfl rfl (w.heap.size+1+1+1) 8 _ 245 hD2 (y.bytes.map B) rfl ?h4 (by simp[Nm.bytes]) (fun u hu=>Ba hu) (w.heap.size+1+1+1) w3 (AC _ _) (AB _) ?_
 case h4=>
  intro _;refine⟨rfl,_,rfl,fun j v hv=>?_⟩;rw[Addr.add_mid,hY2.cell,Nat.zero_add];simpa[Nm.bytes]using hv
 intro w4 hg4 hb4;have hR4:=hR2.below hb4 (by omega);have xE:=xB.trans (hb4.mono (by omega));have hD4:Blk w4 (w.heap.size+1+1+1) 245 ((x.bytes++y.bytes).map B).toArray:=by
  have h:=hg4.out;unfold Blk;simpa[splice,Nm.bytes]using h
 have hlt:=hD4.lt;clear hY2 hR2 hD2 xB hb4 hg4;go_frame;go_wp2_with fail
 have hrd:Rd w4 w4.heap.size (some ⟨w.heap.size+1+1+1,0,none⟩) ((x.bytes++y.bytes).map B):=by
  have h:=Rd.of_blk hD4 0 16;simpa[Nm.bytes]using h
 have xO:Calls prog 50 #[B t,.slice (some ⟨w.heap.size+1+1+1,0,none⟩) 16 16] w4 (BM w4 r):=CE t _ 16 (x.bytes++y.bytes) r w4 hrd (by simp[Nm.bytes]) HS.out;refine xO.mono ?_;clear xO hrd hD4;rintro en w5 ⟨rfl,hb5⟩;have hZ5:=hR4.below hb5 hR4.lt;have xP:=xE.trans (hb5.mono xE.size);clear hR4 xE hb5;go_wp2_with (refine AI rfl 24 (.tmp 6) (.tmp 16) rfl (w.heap.size+1+1) _ rfl rfl 24 _ hZ5 rfl Ag ?s2 ?_)
 case s2=>exact⟨rfl,rfl,rfl,rfl,rfl,rfl,rfl,rfl⟩
 intro w6 hZ6 hg6 hs6;have xY:ZN w w6:=xP.grown hg6 xP.size (by rintro j ⟨⟩;omega);go_wp2;exact bodyPost_ret (results_cell_row (g:=w.heap.size+1+1) rfl _ _ _ _ _ _ rfl hZ6 underlying24 rfl Ag) rfl ⟨rfl,xY⟩
theorem YV{a b:Int}(h:a=b):Ending.returned (.int .i64 a)= .returned (.int .i64 b):=by rw[h]
theorem DT(d n:Nat)(w:World)(hn:n=2^(d+1))(hd:d<=40):Calls prog 137 #[.int .i64 (n:Int)] w fun e w'=>e= .returned (.int .i64 ((2^d:Nat):Int))/\w'=w:=by
 have hb:n<=2^41:=by rw[hn];exact Nat.pow_le_pow_right (by omega) (by omega)
 have hb':n<=2199023255552:=hb;have HN:=AA hn;clear hn hb;go_enter func137,ntmps137;go_wp2
 go_loop [3] (fun v=>∃e:Nat,e<=d/\v= .int .i64 ((2^e:Nat):Int)) (fun v=>n-(intOf v).toNat)
 case atStart=>exact⟨0,by omega,rfl⟩
 case round=>
  obtain⟨e,he,rfl⟩:=hrel;obtain⟨q,hq⟩:=ZH (2^e);have yF:1<=q:=by rw[hq];exact Nat.one_le_two_pow
  rw[<-hq];by_cases hlt:e<d
  ·have h1:2*(2*q)<=n:=by
    rw[HN.out,hq];have h2:2^(e+1+1)<=2^(d+1):=Nat.pow_le_pow_right (by omega) (by omega);have e1:2^(e+1+1)=2*(2*2^e):=by rw[Nat.pow_succ,Nat.pow_succ];omega
    omega
   have HQ:=AA hq;clear hq;go_wp2
   go_round
   case rel=>exact⟨e+1,by omega,by rw[Nat.pow_succ,<-HQ.out];go_num⟩
   case measure=>simp[intOf];omega
  ·obtain rfl:e=d:=by omega
   have h1:n=2*q:=by rw[HN.out,hq,Nat.pow_succ];omega
   have h2:n<=2*q:=by omega
   have h3:2*q<=n:=by omega
   have hd:decide ((q:Int)<(n:Int)-(q:Int))=false:=by simp;omega
   have HQ:=AA hq;clear hq h1;go_wp2;go_ret;exact⟨YV (congrArg (fun z:Nat=>(z:Int)) HQ.out),rfl⟩
def Wm(n:Nm):Nm:=Dh (17::n.bytes)
theorem Jj(n r:Nm)(w:World)(ze:Dh (17::n.bytes)=r):Calls prog 136 #[n.val] w (BM w r):=by
 have HS:=AA ze;clear ze;go_enter func136,ntmps136;go_wp2_with fail
 have hX:Blk ((w.alloc (Obj.cells n.cells 24)).alloc (Obj.cells #[.int .u8 0,.int .u8 0,.int .u8 0,.int .u8 0,.int .u8 0,.int .u8 0,.int .u8 0,.int .u8 0] 24)) w.heap.size 24 n.cells:=(Blk.new w _ _).alloc _;have hR:Blk ((w.alloc (Obj.cells n.cells 24)).alloc (Obj.cells #[.int .u8 0,.int .u8 0,.int .u8 0,.int .u8 0,.int .u8 0,.int .u8 0,.int .u8 0,.int .u8 0] 24)) (w.heap.size+1) 24 #[.int .u8 0,.int .u8 0,.int .u8 0,.int .u8 0,.int .u8 0,.int .u8 0,.int .u8 0,.int .u8 0]:=by
  have:=Blk.new (w.alloc (Obj.cells n.cells 24)) 24 #[.int .u8 0,.int .u8 0,.int .u8 0,.int .u8 0,.int .u8 0,.int .u8 0,.int .u8 0,.int .u8 0];simpa using this
 have hbW:ZN w ((w.alloc (Obj.cells n.cells 24)).alloc (Obj.cells #[.int .u8 0,.int .u8 0,.int .u8 0,.int .u8 0,.int .u8 0,.int .u8 0,.int .u8 0,.int .u8 0] 24)):=((AC _ _).alloc (AB _) _).alloc (by simp) _;generalize ((w.alloc (Obj.cells n.cells 24)).alloc (Obj.cells #[.int .u8 0,.int .u8 0,.int .u8 0,.int .u8 0,.int .u8 0,.int .u8 0,.int .u8 0,.int .u8 0] 24))=W at*;have hrd:Rd W W.heap.size (some ⟨w.heap.size,0,none⟩) (n.bytes.map B):=by
  have h:=Rd.of_blk hX 0 8;simpa[Nm.bytes]using h
 have xO:Calls prog 50 #[.int .u8 17,.slice (some ⟨w.heap.size,0,none⟩) 8 8] W (BM W r):=CE 17 _ 8 n.bytes r W hrd (by simp[Nm.bytes]) HS.out;refine xO.mono ?_;clear xO hrd hX;rintro en w5 ⟨rfl,hb5⟩;have hZ5:=hR.below hb5 hR.lt;have xP:=hbW.trans (hb5.mono hbW.size);clear hR hbW hb5;go_wp2_with (refine AI rfl 24 (.tmp 2) (.tmp 4) rfl (w.heap.size+1) _ rfl rfl 24 _ hZ5 rfl Ag ?s2 ?_)
 case s2=>exact⟨rfl,rfl,rfl,rfl,rfl,rfl,rfl,rfl⟩
 intro w6 hZ6 hg6 hs6;have xY:ZN w w6:=xP.grown hg6 xP.size (by rintro j ⟨⟩;omega);go_wp2;exact bodyPost_ret (results_cell_row (g:=w.heap.size+1) rfl _ _ _ _ _ _ rfl hZ6 underlying24 rfl Ag) rfl ⟨rfl,xY⟩
theorem Qm(i:Nat)(w:World)(hi:i<32):Calls prog 254 #[.int .i64 (i:Int),.int .i64 32] w fun e w'=>e= .returned (.int .i64 5)/\w'=w:=by
 go_enter func254,ntmps254;go_wp2
 go_loop [0,1,5,6] (fun vi vn vd _=>∃e j n:Nat,e<=5/\Hid (n=2^e)/\j<n/\n<=32/\vi= .int .i64 (j:Int)/\vn= .int .i64 (n:Int)/\vd= .int .i64 ((5-e:Nat):Int)) (fun _ vn _ _=>(intOf vn).toNat)
 case atStart=>exact⟨5,i,32,by omega,rfl,by omega,by omega,rfl,rfl,rfl⟩
 case round=>
  obtain⟨e,j,n,he,Hn,hj,hn32,rfl,rfl,rfl⟩:=hrel;cases e with
  |zero=>
   obtain rfl:n=1:=Hn.out;go_wp2;go_ret;exact⟨rfl,rfl⟩
  |succ e=>
   obtain⟨k,hk⟩:=ZH (2^e);have h2:n=2*k:=by rw[Hn.out,hk,Nat.pow_succ];omega
   have hk1:1<=k:=by rw[hk];exact Nat.one_le_two_pow
   have xO:Calls prog 137 #[.int .i64 (n:Int)] w fun en w'=>en= .returned (.int .i64 (k:Int))/\w'=w:=by
    rw[hk];exact DT e n w Hn.out (by omega)
   have HC:=AA xO;clear xO;have HK:=AA hk;clear hk;have h3:n<=2*k:=by omega
   have h4:2*k<=n:=by omega
   clear h2;by_cases hjk:j<k
   ·go_wp2_with ((go_at_call 137;refine HC.out.mono ?_;rintro en w' ⟨rfl,rfl⟩))
    go_round
    case rel=>exact⟨e,j,k,by omega,HK,hjk,by omega,rfl,rfl,by rw[Value.int.injEq];exact⟨rfl,by omega⟩⟩
    case measure=>simp[intOf];omega
   ·go_wp2_with ((go_at_call 137;refine HC.out.mono ?_;rintro en w' ⟨rfl,rfl⟩))
    go_round
    case rel=>exact⟨e,j-k,k,by omega,HK,by omega,by omega,by go_num,by go_num,by rw[Value.int.injEq];exact⟨rfl,by omega⟩⟩
    case measure=>simp[intOf];omega
abbrev nmc(n:Nm):List Value:=[B n.b0,B n.b1,B n.b2,B n.b3,B n.b4,B n.b5,B n.b6,B n.b7]
def CM(leaf:Nm):Nat->Nat->List Nm->Nm
 |0,_,_=>Wm leaf
 |d+1,i,path=>
  if i<2^d then Tc 18 (CM leaf d i path) (path.getD d Nm.zero)
  else Tc 18 (path.getD d Nm.zero) (CM leaf d (i-2^d) path)
theorem Fl(leaf:Nm):∀(d i k:Nat) (path:List Nm),d<=k->CM leaf d i (path.take k)=CM leaf d i path
 |0,_,_,_,_=>rfl
 |d+1,i,k,path,h=>by
  have e:(path.take k).getD d Nm.zero=path.getD d Nm.zero:=by
   simp only[List.getD_eq_getElem?_getD,BP];rw[if_pos (by omega)]
  rw[CM,CM,Fl leaf d i k path (by omega),Fl leaf d (i-2^d) k path (by omega),e]
theorem Cb(l:List Nm):∀n∈l,(nmc n).length=8:=fun _ _=>rfl
theorem Ll(i:Nat)(leaf r:Nm)(A:Option Addr)(c:Nat)(w:World)(hr:Dh (17::leaf.bytes)=r):Calls prog 275 #[leaf.val,.int .i64 (i:Int),.int .i64 1,.slice A 0 c] w (BM w r):=by
 have HS:=AA hr;clear hr;go_enter func275,ntmps275;go_wp2_with fail
 have hR:Blk ((w.alloc (Obj.cells leaf.cells 24)).alloc (Obj.cells #[.int .u8 0,.int .u8 0,.int .u8 0,.int .u8 0,.int .u8 0,.int .u8 0,.int .u8 0,.int .u8 0] 24)) (w.heap.size+1) 24 #[.int .u8 0,.int .u8 0,.int .u8 0,.int .u8 0,.int .u8 0,.int .u8 0,.int .u8 0,.int .u8 0]:=by
  have:=Blk.new (w.alloc (Obj.cells leaf.cells 24)) 24 #[.int .u8 0,.int .u8 0,.int .u8 0,.int .u8 0,.int .u8 0,.int .u8 0,.int .u8 0,.int .u8 0];simpa using this
 have hbW:ZN w ((w.alloc (Obj.cells leaf.cells 24)).alloc (Obj.cells #[.int .u8 0,.int .u8 0,.int .u8 0,.int .u8 0,.int .u8 0,.int .u8 0,.int .u8 0,.int .u8 0] 24)):=((AC _ _).alloc (AB _) _).alloc (by simp) _;generalize ((w.alloc (Obj.cells leaf.cells 24)).alloc (Obj.cells #[.int .u8 0,.int .u8 0,.int .u8 0,.int .u8 0,.int .u8 0,.int .u8 0,.int .u8 0,.int .u8 0] 24))=W at*;refine(Jj leaf r W HS.out).mono ?_;rintro en w5 ⟨rfl,hb5⟩;have hZ5:=hR.below hb5 hR.lt;have xP:=hbW.trans (hb5.mono hbW.size);clear hR hbW hb5;go_wp2_with (refine AI rfl 24 (.tmp 8) (.tmp 14) rfl (w.heap.size+1) _ rfl rfl 24 _ hZ5 rfl Ag ?s2 ?_)
 case s2=>exact⟨rfl,rfl,rfl,rfl,rfl,rfl,rfl,rfl⟩
 intro w6 hZ6 hg6 hs6;have xY:ZN w w6:=xP.grown hg6 xP.size (by rintro j ⟨⟩;omega);go_wp2;exact bodyPost_ret (results_cell_row (g:=w.heap.size+1) rfl _ _ _ _ _ _ rfl hZ6 underlying24 rfl Ag) rfl ⟨rfl,xY⟩
end
section
open Go.RowKit
attribute [local go_sem ↓] Go.wp_at_zero Go.wp_at_succ
theorem Nz(d i n k c b o:Nat)(leaf r1 up r:Nm)(w:World)(hk:k=2^d)(hn:n=2^(d+1))(hd:d<=40)(hik:i<k)(hc:d+1<=c)(hb:b<w.heap.size)(hup:∀j u,(nmc up)[j]? =some u->w.cell? ⟨b,o+d*8+j,none⟩=some u)(h1:∀W,ZN w W->Calls prog 275 #[leaf.val,.int .i64 (i:Int),.int .i64 (k:Int),.slice (some ⟨b,o,none⟩) d c] W (BM W r1))(hr:Dh (18::(r1.bytes++up.bytes))=r):Calls prog 275 #[leaf.val,.int .i64 (i:Int),.int .i64 (n:Int),.slice (some ⟨b,o,none⟩) (d+1) c] w (BM w r):=by
 have HS:=AA hr;clear hr;have H1:=AA h1;clear h1;have Hup:=AA hup;clear hup;have hk1:1<=k:=by rw[hk];exact Nat.one_le_two_pow
 have hkb:k<=1099511627776:=by rw[hk];exact Nat.pow_le_pow_right (j:=40) (by omega) hd
 have h2:n=2*k:=by rw[hn,hk,Nat.pow_succ];omega
 have xO:∀W,Calls prog 137 #[.int .i64 (n:Int)] W fun en w'=>en= .returned (.int .i64 (k:Int))/\w'=W:=fun W=>by
  rw[hk];exact DT d n W hn hd
 have HC:=AA xO;clear xO;have hne:((n:Int)==1)=false:=by rw[beq_eq_false_iff_ne];omega
 have h3:n<=2*k:=by omega
 have h4:2*k<=n:=by omega
 clear h2 hk hn;go_enter func275,ntmps275;go_wp2_with ((go_at_call 137;refine(HC.out _).mono ?_;rintro en w' ⟨rfl,rfl⟩))
 have hX:Blk ((w.alloc (Obj.cells leaf.cells 24)).alloc (Obj.cells #[.int .u8 0,.int .u8 0,.int .u8 0,.int .u8 0,.int .u8 0,.int .u8 0,.int .u8 0,.int .u8 0] 24)) w.heap.size 24 leaf.cells:=(Blk.new w _ _).alloc _;have hR:Blk ((w.alloc (Obj.cells leaf.cells 24)).alloc (Obj.cells #[.int .u8 0,.int .u8 0,.int .u8 0,.int .u8 0,.int .u8 0,.int .u8 0,.int .u8 0,.int .u8 0] 24)) (w.heap.size+1) 24 #[.int .u8 0,.int .u8 0,.int .u8 0,.int .u8 0,.int .u8 0,.int .u8 0,.int .u8 0,.int .u8 0]:=by
  have:=Blk.new (w.alloc (Obj.cells leaf.cells 24)) 24 #[.int .u8 0,.int .u8 0,.int .u8 0,.int .u8 0,.int .u8 0,.int .u8 0,.int .u8 0,.int .u8 0];simpa using this
 have hbW:ZN w ((w.alloc (Obj.cells leaf.cells 24)).alloc (Obj.cells #[.int .u8 0,.int .u8 0,.int .u8 0,.int .u8 0,.int .u8 0,.int .u8 0,.int .u8 0,.int .u8 0] 24)):=((AC _ _).alloc (AB _) _).alloc (by simp) _;generalize ((w.alloc (Obj.cells leaf.cells 24)).alloc (Obj.cells #[.int .u8 0,.int .u8 0,.int .u8 0,.int .u8 0,.int .u8 0,.int .u8 0,.int .u8 0,.int .u8 0] 24))=W at*;have x0:W.cell? ⟨w.heap.size,0,none⟩=some (B leaf.b0):=hX.cell 0;have x1:W.cell? ⟨w.heap.size,1,none⟩=some (B leaf.b1):=hX.cell 1;have x2:W.cell? ⟨w.heap.size,2,none⟩=some (B leaf.b2):=hX.cell 2;have x3:W.cell? ⟨w.heap.size,3,none⟩=some (B leaf.b3):=hX.cell 3;have x4:W.cell? ⟨w.heap.size,4,none⟩=some (B leaf.b4):=hX.cell 4;have x5:W.cell? ⟨w.heap.size,5,none⟩=some (B leaf.b5):=hX.cell 5;have x6:W.cell? ⟨w.heap.size,6,none⟩=some (B leaf.b6):=hX.cell 6;have x7:W.cell? ⟨w.heap.size,7,none⟩=some (B leaf.b7):=hX.cell 7;have y0:W.cell? ⟨b,o+d*8,none⟩=some (B up.b0):=(hbW.cell (p:=⟨b,o+d*8,none⟩) hb).trans (Hup.out 0 _ rfl);have y1:W.cell? ⟨b,o+d*8+1,none⟩=some (B up.b1):=(hbW.cell (p:=⟨b,o+d*8+1,none⟩) hb).trans (Hup.out 1 _ rfl);have y2:W.cell? ⟨b,o+d*8+2,none⟩=some (B up.b2):=(hbW.cell (p:=⟨b,o+d*8+2,none⟩) hb).trans (Hup.out 2 _ rfl);have y3:W.cell? ⟨b,o+d*8+3,none⟩=some (B up.b3):=(hbW.cell (p:=⟨b,o+d*8+3,none⟩) hb).trans (Hup.out 3 _ rfl);have y4:W.cell? ⟨b,o+d*8+4,none⟩=some (B up.b4):=(hbW.cell (p:=⟨b,o+d*8+4,none⟩) hb).trans (Hup.out 4 _ rfl);have y5:W.cell? ⟨b,o+d*8+5,none⟩=some (B up.b5):=(hbW.cell (p:=⟨b,o+d*8+5,none⟩) hb).trans (Hup.out 5 _ rfl);have y6:W.cell? ⟨b,o+d*8+6,none⟩=some (B up.b6):=(hbW.cell (p:=⟨b,o+d*8+6,none⟩) hb).trans (Hup.out 6 _ rfl);have y7:W.cell? ⟨b,o+d*8+7,none⟩=some (B up.b7):=(hbW.cell (p:=⟨b,o+d*8+7,none⟩) hb).trans (Hup.out 7 _ rfl);have xq:=hX.lt;have hlt:=hR.lt;have yB:b<W.heap.size:=Nat.lt_of_lt_of_le hb hbW.size;have i1:(0:Int)<=(d:Int):=by omega
 have i2:(d:Int)<(d:Int)+1:=by omega
 have i3:(d:Int)<=(c:Int):=by omega
 have n1:¬w.heap.size+1=b:=by omega
 have n2:¬b=w.heap.size+1:=by omega
 have HH1:Hid (Calls prog 275 #[leaf.val,.int .i64 (i:Int),.int .i64 (k:Int),.slice (some ⟨b,o,none⟩) d c] W.drew fun e w'=>e= .returned r1.val/\ZN W w'/\(w'.cell? ⟨w.heap.size,0,none⟩=some (B leaf.b0)/\w'.cell? ⟨w.heap.size,1,none⟩=some (B leaf.b1)/\w'.cell? ⟨w.heap.size,2,none⟩=some (B leaf.b2)/\w'.cell? ⟨w.heap.size,3,none⟩=some (B leaf.b3)/\w'.cell? ⟨w.heap.size,4,none⟩=some (B leaf.b4)/\w'.cell? ⟨w.heap.size,5,none⟩=some (B leaf.b5)/\w'.cell? ⟨w.heap.size,6,none⟩=some (B leaf.b6)/\w'.cell? ⟨w.heap.size,7,none⟩=some (B leaf.b7)/\w'.cell? ⟨b,o+d*8,none⟩=some (B up.b0)/\w'.cell? ⟨b,o+d*8+1,none⟩=some (B up.b1)/\w'.cell? ⟨b,o+d*8+2,none⟩=some (B up.b2)/\w'.cell? ⟨b,o+d*8+3,none⟩=some (B up.b3)/\w'.cell? ⟨b,o+d*8+4,none⟩=some (B up.b4)/\w'.cell? ⟨b,o+d*8+5,none⟩=some (B up.b5)/\w'.cell? ⟨b,o+d*8+6,none⟩=some (B up.b6)/\w'.cell? ⟨b,o+d*8+7,none⟩=some (B up.b7))):=by
  refine(H1.out _ hbW.drew).mono ?_;rintro en w1 ⟨rfl,hb1⟩;have hb2:ZN W w1:=(AC _ _).drew.trans hb1;exact⟨rfl,hb2,(hb2.cell (p:=⟨w.heap.size,0,none⟩) xq).trans x0,(hb2.cell (p:=⟨w.heap.size,1,none⟩) xq).trans x1,(hb2.cell (p:=⟨w.heap.size,2,none⟩) xq).trans x2,(hb2.cell (p:=⟨w.heap.size,3,none⟩) xq).trans x3,(hb2.cell (p:=⟨w.heap.size,4,none⟩) xq).trans x4,(hb2.cell (p:=⟨w.heap.size,5,none⟩) xq).trans x5,(hb2.cell (p:=⟨w.heap.size,6,none⟩) xq).trans x6,(hb2.cell (p:=⟨w.heap.size,7,none⟩) xq).trans x7,(hb2.cell (p:=⟨b,o+d*8,none⟩) yB).trans y0,(hb2.cell (p:=⟨b,o+d*8+1,none⟩) yB).trans y1,(hb2.cell (p:=⟨b,o+d*8+2,none⟩) yB).trans y2,(hb2.cell (p:=⟨b,o+d*8+3,none⟩) yB).trans y3,(hb2.cell (p:=⟨b,o+d*8+4,none⟩) yB).trans y4,(hb2.cell (p:=⟨b,o+d*8+5,none⟩) yB).trans y5,(hb2.cell (p:=⟨b,o+d*8+6,none⟩) yB).trans y6,(hb2.cell (p:=⟨b,o+d*8+7,none⟩) yB).trans y7⟩
 have HH2:Hid (∀w1,ZN W w1->Calls prog 138 #[.int .u8 18,r1.val,up.val] w1 fun e w'=>e= .returned r.val/\ZN W w'/\(w'.cell? ⟨w.heap.size,0,none⟩=some (B leaf.b0)/\w'.cell? ⟨w.heap.size,1,none⟩=some (B leaf.b1)/\w'.cell? ⟨w.heap.size,2,none⟩=some (B leaf.b2)/\w'.cell? ⟨w.heap.size,3,none⟩=some (B leaf.b3)/\w'.cell? ⟨w.heap.size,4,none⟩=some (B leaf.b4)/\w'.cell? ⟨w.heap.size,5,none⟩=some (B leaf.b5)/\w'.cell? ⟨w.heap.size,6,none⟩=some (B leaf.b6)/\w'.cell? ⟨w.heap.size,7,none⟩=some (B leaf.b7)/\w'.cell? ⟨b,o+d*8,none⟩=some (B up.b0)/\w'.cell? ⟨b,o+d*8+1,none⟩=some (B up.b1)/\w'.cell? ⟨b,o+d*8+2,none⟩=some (B up.b2)/\w'.cell? ⟨b,o+d*8+3,none⟩=some (B up.b3)/\w'.cell? ⟨b,o+d*8+4,none⟩=some (B up.b4)/\w'.cell? ⟨b,o+d*8+5,none⟩=some (B up.b5)/\w'.cell? ⟨b,o+d*8+6,none⟩=some (B up.b6)/\w'.cell? ⟨b,o+d*8+7,none⟩=some (B up.b7))/\(w'.cell? ⟨w.heap.size+1,0,none⟩=some (.int .u8 0)/\w'.frozen? ⟨w.heap.size+1,0,none⟩=false/\w'.cell? ⟨w.heap.size+1,1,none⟩=some (.int .u8 0)/\w'.frozen? ⟨w.heap.size+1,1,none⟩=false/\w'.cell? ⟨w.heap.size+1,2,none⟩=some (.int .u8 0)/\w'.frozen? ⟨w.heap.size+1,2,none⟩=false/\w'.cell? ⟨w.heap.size+1,3,none⟩=some (.int .u8 0)/\w'.frozen? ⟨w.heap.size+1,3,none⟩=false/\w'.cell? ⟨w.heap.size+1,4,none⟩=some (.int .u8 0)/\w'.frozen? ⟨w.heap.size+1,4,none⟩=false/\w'.cell? ⟨w.heap.size+1,5,none⟩=some (.int .u8 0)/\w'.frozen? ⟨w.heap.size+1,5,none⟩=false/\w'.cell? ⟨w.heap.size+1,6,none⟩=some (.int .u8 0)/\w'.frozen? ⟨w.heap.size+1,6,none⟩=false/\w'.cell? ⟨w.heap.size+1,7,none⟩=some (.int .u8 0)/\w'.frozen? ⟨w.heap.size+1,7,none⟩=false)):=by
  intro w1 hbx;refine(JG 18 r1 up r _ HS.out).mono ?_;rintro en w2 ⟨rfl,hb1⟩;have hb2:ZN W w2:=hbx.trans (hb1.mono hbx.size);have hR2:=hR.below hb2 hR.lt;exact⟨rfl,hb2,⟨(hb2.cell (p:=⟨w.heap.size,0,none⟩) xq).trans x0,(hb2.cell (p:=⟨w.heap.size,1,none⟩) xq).trans x1,(hb2.cell (p:=⟨w.heap.size,2,none⟩) xq).trans x2,(hb2.cell (p:=⟨w.heap.size,3,none⟩) xq).trans x3,(hb2.cell (p:=⟨w.heap.size,4,none⟩) xq).trans x4,(hb2.cell (p:=⟨w.heap.size,5,none⟩) xq).trans x5,(hb2.cell (p:=⟨w.heap.size,6,none⟩) xq).trans x6,(hb2.cell (p:=⟨w.heap.size,7,none⟩) xq).trans x7,(hb2.cell (p:=⟨b,o+d*8,none⟩) yB).trans y0,(hb2.cell (p:=⟨b,o+d*8+1,none⟩) yB).trans y1,(hb2.cell (p:=⟨b,o+d*8+2,none⟩) yB).trans y2,(hb2.cell (p:=⟨b,o+d*8+3,none⟩) yB).trans y3,(hb2.cell (p:=⟨b,o+d*8+4,none⟩) yB).trans y4,(hb2.cell (p:=⟨b,o+d*8+5,none⟩) yB).trans y5,(hb2.cell (p:=⟨b,o+d*8+6,none⟩) yB).trans y6,(hb2.cell (p:=⟨b,o+d*8+7,none⟩) yB).trans y7⟩,hR2.cell 0,hR2.frozen 0,hR2.cell 1,hR2.frozen 1,hR2.cell 2,hR2.frozen 2,hR2.cell 3,hR2.frozen 3,hR2.cell 4,hR2.frozen 4,hR2.cell 5,hR2.frozen 5,hR2.cell 6,hR2.frozen 6,hR2.cell 7,hR2.frozen 7⟩
 go_region_held3 (fun w'=>w'.cell? ⟨w.heap.size,0,none⟩=some (B leaf.b0)/\w'.cell? ⟨w.heap.size,1,none⟩=some (B leaf.b1)/\w'.cell? ⟨w.heap.size,2,none⟩=some (B leaf.b2)/\w'.cell? ⟨w.heap.size,3,none⟩=some (B leaf.b3)/\w'.cell? ⟨w.heap.size,4,none⟩=some (B leaf.b4)/\w'.cell? ⟨w.heap.size,5,none⟩=some (B leaf.b5)/\w'.cell? ⟨w.heap.size,6,none⟩=some (B leaf.b6)/\w'.cell? ⟨w.heap.size,7,none⟩=some (B leaf.b7)/\w'.cell? ⟨b,o+d*8,none⟩=some (B up.b0)/\w'.cell? ⟨b,o+d*8+1,none⟩=some (B up.b1)/\w'.cell? ⟨b,o+d*8+2,none⟩=some (B up.b2)/\w'.cell? ⟨b,o+d*8+3,none⟩=some (B up.b3)/\w'.cell? ⟨b,o+d*8+4,none⟩=some (B up.b4)/\w'.cell? ⟨b,o+d*8+5,none⟩=some (B up.b5)/\w'.cell? ⟨b,o+d*8+6,none⟩=some (B up.b6)/\w'.cell? ⟨b,o+d*8+7,none⟩=some (B up.b7)) (go_keep)
  ((first
   |(go_at_call 275;refine HH1.out.mono ?_;rintro en w1 ⟨rfl,hb1,p0,p1,p2,p3,p4,p5,p6,p7,p8,p9,p10,p11,p12,p13,p14,p15⟩)
   |(go_at_call 138;refine(HH2.out _ hb1).mono ?_;rintro en w2 ⟨rfl,hb2,⟨q0,q1,q2,q3,q4,q5,q6,q7,q8,q9,q10,q11,q12,q13,q14,q15⟩,z0,f0,z1,f1,z2,f2,z3,f3,z4,f4,z5,f5,z6,f6,z7,f7⟩)))
 all_goals
  have hFP:ZN w w2:=hbW.trans (hb2.mono hbW.size);have hR6:=(((((((((hR.below hb2 hR.lt).put 0 (B r.b0)).put 1 (B r.b1)).put 2 (B r.b2)).put 3 (B r.b3)).put 4 (B r.b4)).put 5 (B r.b5)).put 6 (B r.b6)).put 7 (B r.b7));have xY:=((((((((hFP.setCell (p:=⟨w.heap.size+1,0,none⟩) (by simp) (B r.b0)).setCell (p:=⟨w.heap.size+1,1,none⟩) (by simp) (B r.b1)).setCell (p:=⟨w.heap.size+1,2,none⟩) (by simp) (B r.b2)).setCell (p:=⟨w.heap.size+1,3,none⟩) (by simp) (B r.b3)).setCell (p:=⟨w.heap.size+1,4,none⟩) (by simp) (B r.b4)).setCell (p:=⟨w.heap.size+1,5,none⟩) (by simp) (B r.b5)).setCell (p:=⟨w.heap.size+1,6,none⟩) (by simp) (B r.b6)).setCell (p:=⟨w.heap.size+1,7,none⟩) (by simp) (B r.b7));clear p0 p1 p2 p3 p4 p5 p6 p7 p8 p9 p10 p11 p12 p13 p14 p15 q0 q1 q2 q3 q4 q5 q6 q7 q8 q9 q10 q11 q12 q13 q14 q15 z0 z1 z2 z3 z4 z5 z6 z7 f0 f1 f2 f3 f4 f5 f6 f7 x0 x1 x2 x3 x4 x5 x6 x7 y0 y1 y2 y3 y4 y5 y6 y7 HH1 HH2 hR hX;go_wp2;exact bodyPost_ret (results_cell_row (g:=w.heap.size+1) (cs:=r.cells) rfl _ _ _ _ _ rfl hR6 underlying24 rfl Ag) rfl ⟨rfl,xY⟩
end
end Go.Proofs.YtadllffeoibelaaGreat
