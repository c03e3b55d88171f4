/-
  Parts of the proof. No condition.
-/
import Derived.Test.YtadllffeoibelaaGreatS26
open Go.Proofs.Tryz
namespace Go.Proofs.YtadllffeoibelaaGreat
set_option maxRecDepth 100000
set_option maxHeartbeats 32000000
set_option linter.all false
section
open Go.RowKit
attribute [local go_sem ↓] Go.wp_at_zero Go.wp_at_succ Aj Ao Ap Aq
attribute [local go_sem] Ax BB BC BD AK AR AN
def Eh(w:World)(v:Vt)(n:Int)(e:Ending)(w':World):Prop:=e= .returned (.tuple #[v.val,.int .i64 n])/\ZN w w'
theorem Po(A:Option Addr)(n c:Nat)(w:World)(h:n<23):Calls prog 157 #[.slice A n c] w (Eh w Bi 2):=by
 have hR:Blk (w.alloc (Obj.cells Ad 46)) w.heap.size 46 Ad:=Blk.new w _ _;go_enter func157,ntmps157;go_wp2_with (refine AI rfl 46 (.tmp 2) (.tmp 11) rfl w.heap.size _ rfl rfl 46 _ hR rfl Bk ?s1 ?_)
 case s1=>exact⟨rfl,rfl⟩
 intro w1 hR1 hg1 hs1;go_wp2;exact bodyPost_ret (AW (g:=w.heap.size) (cs:=Ad) rfl _ _ _ _ _ rfl hR1 underlying46 rfl Bk) rfl ⟨rfl,((AC _ _).alloc (AB _) _).grown hg1 (by simp) (by rintro j ⟨⟩;omega)⟩
theorem R7(A:Option Addr)(n c:Nat)(w:World)(h:23<n):Calls prog 157 #[.slice A n c] w (Eh w Bi 3):=by
 have hR:Blk (w.alloc (Obj.cells Ad 46)) w.heap.size 46 Ad:=Blk.new w _ _;go_enter func157,ntmps157;go_wp2_with (refine AI rfl 46 (.tmp 2) (.tmp 16) rfl w.heap.size _ rfl rfl 46 _ hR rfl Bk ?s1 ?_)
 case s1=>exact⟨rfl,rfl⟩
 intro w1 hR1 hg1 hs1;go_wp2;exact bodyPost_ret (AW (g:=w.heap.size) (cs:=Ad) rfl _ _ _ _ _ rfl hR1 underlying46 rfl Bk) rfl ⟨rfl,((AC _ _).alloc (AB _) _).grown hg1 (by simp) (by rintro j ⟨⟩;omega)⟩
theorem UC(b o c:Nat)(b0 b1 b2 b3 b4 b5 b6:UInt8)(sp:Nat)(p q:Nm)(V:Vt)(w:World)(hc:23<=c)(hm:c<=maxLen)(hb:b<w.heap.size)(c0:w.cell? ⟨b,o,none⟩=some (B b0))(c1:w.cell? ⟨b,o+1,none⟩=some (B b1))(c2:w.cell? ⟨b,o+2,none⟩=some (B b2))(c3:w.cell? ⟨b,o+3,none⟩=some (B b3))(c4:w.cell? ⟨b,o+4,none⟩=some (B b4))(c5:w.cell? ⟨b,o+5,none⟩=some (B b5))(c6:w.cell? ⟨b,o+6,none⟩=some (B b6))(hp:∀j u,(nmc p)[j]? =some u->w.cell? ⟨b,o+7+j,none⟩=some u)(hq:∀j u,(nmc q)[j]? =some u->w.cell? ⟨b,o+15+j,none⟩=some u)(hV:V=⟨(b0.toNat:Int),(b1.toNat:Int),(b2.toNat:Int),(b3.toNat:Int),(b4.toNat:Int),(sp:Int),p,q⟩)(hsp:sp=b5.toNat*256+b6.toNat)(hok:V.ok)(hy:Ab V)(hu:∀W,ZN w W->Calls prog 201 #[.slice (some ⟨b,o,none⟩) 23 c,.int .i64 5,.int .i64 2] W fun e w'=>e= .returned (.tuple #[.int .u64 (sp:Int),.bool true])/\w'=W):Calls prog 157 #[.slice (some ⟨b,o,none⟩) 23 c] w (Eh w V 0):=by
 have HV:=AA (fun W=>FR V W hok hy);have HU:=AA hu;clear hu;have HP:=AA hp;clear hp;have HQ:=AA hq;clear hq;have HE:=AA hV;clear hV hok hy;unfold maxLen at hm;have hspl:sp<=65535:=by have:=b5.toNat_lt;have:=b6.toNat_lt;omega
 have HSP:=AA hsp;clear hsp;have t0:=b0.toNat_lt;have t1:=b1.toNat_lt;have t2:=b2.toNat_lt;have t3:=b3.toNat_lt;have t4:=b4.toNat_lt;have t5:=b5.toNat_lt;have t6:=b6.toNat_lt;go_enter func157,ntmps157;go_upto_region 6 with((go_at_call 201;refine(HU.out _ ((AC _ _).alloc (AB _) _)).mono ?_;rintro en w' ⟨rfl,rfl⟩))
 have hR:Blk (w.alloc (Obj.cells Ad 46)) w.heap.size 46 Ad:=Blk.new w _ _;have hbW:ZN w (w.alloc (Obj.cells Ad 46)):=(AC _ _).alloc (AB _) _;have hlt:b<(w.alloc (Obj.cells Ad 46)).heap.size:=by simp;omega
 have d0:(w.alloc (Obj.cells Ad 46)).cell? ⟨b,o,none⟩=some (B b0):=(World.cell?_alloc_lt _ _ _ hb).trans c0;have d1:(w.alloc (Obj.cells Ad 46)).cell? ⟨b,o+1,none⟩=some (B b1):=(World.cell?_alloc_lt _ _ _ hb).trans c1;have d2:(w.alloc (Obj.cells Ad 46)).cell? ⟨b,o+2,none⟩=some (B b2):=(World.cell?_alloc_lt _ _ _ hb).trans c2;have d3:(w.alloc (Obj.cells Ad 46)).cell? ⟨b,o+3,none⟩=some (B b3):=(World.cell?_alloc_lt _ _ _ hb).trans c3;have d4:(w.alloc (Obj.cells Ad 46)).cell? ⟨b,o+4,none⟩=some (B b4):=(World.cell?_alloc_lt _ _ _ hb).trans c4;have d5:(w.alloc (Obj.cells Ad 46)).cell? ⟨b,o+5,none⟩=some (B b5):=(World.cell?_alloc_lt _ _ _ hb).trans c5;have d6:(w.alloc (Obj.cells Ad 46)).cell? ⟨b,o+6,none⟩=some (B b6):=(World.cell?_alloc_lt _ _ _ hb).trans c6;clear c0 c1 c2 c3 c4 c5 c6;generalize (w.alloc (Obj.cells Ad 46))=W at*;have hw0:IntKind.i64.wrap (b0.toNat:Int)=(b0.toNat:Int):=BI _ (by omega);have hw1:IntKind.i64.wrap (b1.toNat:Int)=(b1.toNat:Int):=BI _ (by omega);have hw2:IntKind.i64.wrap (b2.toNat:Int)=(b2.toNat:Int):=BI _ (by omega);have hw3:IntKind.i64.wrap (b3.toNat:Int)=(b3.toNat:Int):=BI _ (by omega);have hw4:IntKind.i64.wrap (b4.toNat:Int)=(b4.toNat:Int):=BI _ (by omega);have hw5:IntKind.i64.wrap (b5.toNat:Int)=(b5.toNat:Int):=BI _ (by omega);have hw6:IntKind.i64.wrap (b6.toNat:Int)=(b6.toNat:Int):=BI _ (by omega);have hw7:IntKind.i64.wrap (sp:Int)=(sp:Int):=BI _ (by omega);clear t0 t1 t2 t3 t4 t5 t6;refine rgD (fun w'=>w'.cell? ⟨b,o,none⟩=some (B b0)/\w'.cell? ⟨b,o+1,none⟩=some (B b1)/\w'.cell? ⟨b,o+2,none⟩=some (B b2)/\w'.cell? ⟨b,o+3,none⟩=some (B b3)/\w'.cell? ⟨b,o+4,none⟩=some (B b4)/\w'.cell? ⟨b,o+5,none⟩=some (B b5)/\w'.cell? ⟨b,o+6,none⟩=some (B b6)) (⟨d0,d1,d2,d3,d4,d5,d6⟩) fun _=>?_
 iterate 23 (refine tkA ?_;go_frame)
 refine rd1 23 fun K hK=>?_
 go_simp;refine hK.out _ _ (⟨(World.cell?_alloc_lt _ _ _ hlt).trans d0,(World.cell?_alloc_lt _ _ _ hlt).trans d1,(World.cell?_alloc_lt _ _ _ hlt).trans d2,(World.cell?_alloc_lt _ _ _ hlt).trans d3,(World.cell?_alloc_lt _ _ _ hlt).trans d4,(World.cell?_alloc_lt _ _ _ hlt).trans d5,(World.cell?_alloc_lt _ _ _ hlt).trans d6⟩) (fun _=>?_);clear hK K;try go_frame
 refine rd1 24 fun K hK=>?_
 rw[if_pos (by rfl)];refine BN 46 (.tmp 6) (.tmp 44) rfl W.heap.size (⟨(b0.toNat:Int),(b1.toNat:Int),(b2.toNat:Int),(b3.toNat:Int),(b4.toNat:Int),(sp:Int),Nm.zero,Nm.zero⟩:Vt).cells rfl rfl 46 Ad (Blk.new W.drew _ _) rfl Bk (fun u hu=>BO (⟨(b0.toNat:Int),(b1.toNat:Int),(b2.toNat:Int),(b3.toNat:Int),(b4.toNat:Int),(sp:Int),Nm.zero,Nm.zero⟩:Vt) hu) rfl ?_;intro w1 hV1 hg1 hs1;refine hK.out _ _ (⟨(World.cell?_of_block (a:=⟨b,o,none⟩) (hg1.block b (by simp;omega) (by simp;omega))).trans ((World.cell?_alloc_lt _ _ _ hlt).trans d0),(World.cell?_of_block (a:=⟨b,o+1,none⟩) (hg1.block b (by simp;omega) (by simp;omega))).trans ((World.cell?_alloc_lt _ _ _ hlt).trans d1),(World.cell?_of_block (a:=⟨b,o+2,none⟩) (hg1.block b (by simp;omega) (by simp;omega))).trans ((World.cell?_alloc_lt _ _ _ hlt).trans d2),(World.cell?_of_block (a:=⟨b,o+3,none⟩) (hg1.block b (by simp;omega) (by simp;omega))).trans ((World.cell?_alloc_lt _ _ _ hlt).trans d3),(World.cell?_of_block (a:=⟨b,o+4,none⟩) (hg1.block b (by simp;omega) (by simp;omega))).trans ((World.cell?_alloc_lt _ _ _ hlt).trans d4),(World.cell?_of_block (a:=⟨b,o+5,none⟩) (hg1.block b (by simp;omega) (by simp;omega))).trans ((World.cell?_alloc_lt _ _ _ hlt).trans d5),(World.cell?_of_block (a:=⟨b,o+6,none⟩) (hg1.block b (by simp;omega) (by simp;omega))).trans ((World.cell?_alloc_lt _ _ _ hlt).trans d6)⟩) (fun _=>?_);clear hK K;try go_frame
 refine dnD ?_;clear d0 d1 d2 d3 d4 d5 d6;have hR1:Blk w1 w.heap.size 46 Ad:=(hR.drew.alloc _).kept hg1 (by have:=hR.lt;simp;omega);have xQ:ZN w w1:=(hbW.drew.alloc hbW.size _).grown hg1 (by have:=hbW.size;simp;omega) (by rintro j ⟨⟩;exact hbW.size);have hWl:=hR.lt;clear hR hbW hg1 hs1 hw0 hw1 hw2 hw3 hw4 hw5 hw6 hw7;have i1:(23:Int)<=(c:Int):=by omega
 have i2:¬c=7:=by omega
 have i3:¬c=15:=by omega
 have i4:(15:Int)<=(c:Int):=by omega
 go_wp2;refine wp_region_still_tail 4 (by kernel_rfl) (by kernel_rfl) ?_;simp only[List.take_succ_cons,List.take_zero,List.drop_succ_cons,List.drop_zero]
 iterate 4 still_step
 refine wpStill_nil ?_;change wpList _ _ _ _ _ w1.drew;refine wpList_copy_splice rfl (.tmp 46) (.tmp 48) _ _ rfl 5 underlying60 (by kernel_rfl) _ _ _ _ _ _ rfl rfl W.heap.size 6 (Vt.cells (⟨(b0.toNat:Int),(b1.toNat:Int),(b2.toNat:Int),(b3.toNat:Int),(b4.toNat:Int),(sp:Int),Nm.zero,Nm.zero⟩:Vt)).toList 46 hV1.drew (nmc p) ?c11 ?c12 ?c13 ?c14 W.heap.size w1.drew (AC _ _) (AB _) ?_
 case c11=>rfl
 case c12=>
  intro _;refine⟨rfl,_,rfl,fun j v hv=>?_⟩;rw[Addr.add_mid];exact((xQ.drew).cell (p:=⟨b,o+7+j,none⟩) hb).trans (HP.out j v hv)
 case c13=>simp
 case c14=>exact fun u hu=>Ba (l:=p.bytes) (by simpa[Nm.bytes]using hu)
 intro w2 hg2 hb2;have hV2:Blk w2 W.heap.size 46 (Vt.cells {(⟨(b0.toNat:Int),(b1.toNat:Int),(b2.toNat:Int),(b3.toNat:Int),(b4.toNat:Int),(sp:Int),Nm.zero,Nm.zero⟩:Vt)with parent:=p}):=hg2.out;have hR2:=(hR1.drew).below hb2 hWl;have xB:ZN w w2:=(xQ.drew).trans (hb2.mono (by omega));clear hV1 hR1 xQ hb2 hg2;go_frame;go_wp2;refine wp_region_still_tail 4 (by kernel_rfl) (by kernel_rfl) ?_;simp only[List.take_succ_cons,List.take_zero,List.drop_succ_cons,List.drop_zero]
 iterate 4 still_step
 refine wpStill_nil ?_;change wpList _ _ _ _ _ w2.drew;refine wpList_copy_splice rfl (.tmp 51) (.tmp 53) _ _ rfl 5 underlying60 (by kernel_rfl) _ _ _ _ _ _ rfl rfl W.heap.size 14 (Vt.cells {(⟨(b0.toNat:Int),(b1.toNat:Int),(b2.toNat:Int),(b3.toNat:Int),(b4.toNat:Int),(sp:Int),Nm.zero,Nm.zero⟩:Vt)with parent:=p}).toList 46 hV2.drew (nmc q) ?c21 ?c22 ?c23 ?c24 W.heap.size w2.drew (AC _ _) (AB _) ?_
 case c21=>rfl
 case c22=>
  intro _;refine⟨rfl,_,rfl,fun j v hv=>?_⟩;rw[Addr.add_mid];exact((xB.drew).cell (p:=⟨b,o+15+j,none⟩) hb).trans (HQ.out j v hv)
 case c23=>simp
 case c24=>exact fun u hu=>Ba (l:=q.bytes) (by simpa[Nm.bytes]using hu)
 intro w3 hg3 hb3;have hV3:Blk w3 W.heap.size 46 V.cells:=by rw[HE.out];exact hg3.out
 have hR3:=(hR2.drew).below hb3 hWl;have xJ:ZN w w3:=(xB.drew).trans (hb3.mono (by omega));clear hV2 hR2 xB hb3 hg3;go_frame;have x0:=hV3.row 22 rfl;have hl3:=hV3.lt;go_wp2_with fail
 refine(HV.out _).mono ?_;rintro en w4 ⟨rfl,hb4⟩;have hV4:=hV3.below hb4 hV3.lt;have hR4:=hR3.below hb4 hR3.lt;have xE:=xJ.trans (hb4.mono xJ.size);clear hV3 hR3 xJ hb4 x0;have x4:=hV4.row 22 rfl;go_wp2_with (refine AI rfl 46 (.tmp 2) (.tmp 59) rfl w.heap.size V.cells rfl rfl 46 _ hR4 rfl Bk (fun u hu=>BO V hu) ?_)
 intro w5 hR5 hg5 hs5;go_wp2;exact bodyPost_ret (AW (g:=w.heap.size) (cs:=V.cells) rfl _ _ _ _ _ rfl hR5 underlying46 rfl Bk) rfl ⟨rfl,xE.grown hg5 xE.size (by rintro j ⟨⟩;omega)⟩
theorem UD(b o c:Nat)(b0 b1 b2 b3 b4 b5 b6:UInt8)(sp:Nat)(p q:Nm)(V:Vt)(w:World)(hc:23<=c)(hm:c<=maxLen)(hb:b<w.heap.size)(c0:w.cell? ⟨b,o,none⟩=some (B b0))(c1:w.cell? ⟨b,o+1,none⟩=some (B b1))(c2:w.cell? ⟨b,o+2,none⟩=some (B b2))(c3:w.cell? ⟨b,o+3,none⟩=some (B b3))(c4:w.cell? ⟨b,o+4,none⟩=some (B b4))(c5:w.cell? ⟨b,o+5,none⟩=some (B b5))(c6:w.cell? ⟨b,o+6,none⟩=some (B b6))(hp:∀j u,(nmc p)[j]? =some u->w.cell? ⟨b,o+7+j,none⟩=some u)(hq:∀j u,(nmc q)[j]? =some u->w.cell? ⟨b,o+15+j,none⟩=some u)(hV:V=⟨(b0.toNat:Int),(b1.toNat:Int),(b2.toNat:Int),(b3.toNat:Int),(b4.toNat:Int),(sp:Int),p,q⟩)(hsp:sp=b5.toNat*256+b6.toNat)(hok:V.ok)(hy:¬Ab V)(hu:∀W,ZN w W->Calls prog 201 #[.slice (some ⟨b,o,none⟩) 23 c,.int .i64 5,.int .i64 2] W fun e w'=>e= .returned (.tuple #[.int .u64 (sp:Int),.bool true])/\w'=W):Calls prog 157 #[.slice (some ⟨b,o,none⟩) 23 c] w (Eh w Bi 11):=by
 have HV:=AA (fun W=>Id V W hok hy);have HU:=AA hu;clear hu;have HP:=AA hp;clear hp;have HQ:=AA hq;clear hq;have HE:=AA hV;clear hV hok hy;unfold maxLen at hm;have hspl:sp<=65535:=by have:=b5.toNat_lt;have:=b6.toNat_lt;omega
 have HSP:=AA hsp;clear hsp;have t0:=b0.toNat_lt;have t1:=b1.toNat_lt;have t2:=b2.toNat_lt;have t3:=b3.toNat_lt;have t4:=b4.toNat_lt;have t5:=b5.toNat_lt;have t6:=b6.toNat_lt;go_enter func157,ntmps157;go_upto_region 6 with((go_at_call 201;refine(HU.out _ ((AC _ _).alloc (AB _) _)).mono ?_;rintro en w' ⟨rfl,rfl⟩))
 have hR:Blk (w.alloc (Obj.cells Ad 46)) w.heap.size 46 Ad:=Blk.new w _ _;have hbW:ZN w (w.alloc (Obj.cells Ad 46)):=(AC _ _).alloc (AB _) _;have hlt:b<(w.alloc (Obj.cells Ad 46)).heap.size:=by simp;omega
 have d0:(w.alloc (Obj.cells Ad 46)).cell? ⟨b,o,none⟩=some (B b0):=(World.cell?_alloc_lt _ _ _ hb).trans c0;have d1:(w.alloc (Obj.cells Ad 46)).cell? ⟨b,o+1,none⟩=some (B b1):=(World.cell?_alloc_lt _ _ _ hb).trans c1;have d2:(w.alloc (Obj.cells Ad 46)).cell? ⟨b,o+2,none⟩=some (B b2):=(World.cell?_alloc_lt _ _ _ hb).trans c2;have d3:(w.alloc (Obj.cells Ad 46)).cell? ⟨b,o+3,none⟩=some (B b3):=(World.cell?_alloc_lt _ _ _ hb).trans c3;have d4:(w.alloc (Obj.cells Ad 46)).cell? ⟨b,o+4,none⟩=some (B b4):=(World.cell?_alloc_lt _ _ _ hb).trans c4;have d5:(w.alloc (Obj.cells Ad 46)).cell? ⟨b,o+5,none⟩=some (B b5):=(World.cell?_alloc_lt _ _ _ hb).trans c5;have d6:(w.alloc (Obj.cells Ad 46)).cell? ⟨b,o+6,none⟩=some (B b6):=(World.cell?_alloc_lt _ _ _ hb).trans c6;clear c0 c1 c2 c3 c4 c5 c6;generalize (w.alloc (Obj.cells Ad 46))=W at*;have hw0:IntKind.i64.wrap (b0.toNat:Int)=(b0.toNat:Int):=BI _ (by omega);have hw1:IntKind.i64.wrap (b1.toNat:Int)=(b1.toNat:Int):=BI _ (by omega);have hw2:IntKind.i64.wrap (b2.toNat:Int)=(b2.toNat:Int):=BI _ (by omega);have hw3:IntKind.i64.wrap (b3.toNat:Int)=(b3.toNat:Int):=BI _ (by omega);have hw4:IntKind.i64.wrap (b4.toNat:Int)=(b4.toNat:Int):=BI _ (by omega);have hw5:IntKind.i64.wrap (b5.toNat:Int)=(b5.toNat:Int):=BI _ (by omega);have hw6:IntKind.i64.wrap (b6.toNat:Int)=(b6.toNat:Int):=BI _ (by omega);have hw7:IntKind.i64.wrap (sp:Int)=(sp:Int):=BI _ (by omega);clear t0 t1 t2 t3 t4 t5 t6;refine rgD (fun w'=>w'.cell? ⟨b,o,none⟩=some (B b0)/\w'.cell? ⟨b,o+1,none⟩=some (B b1)/\w'.cell? ⟨b,o+2,none⟩=some (B b2)/\w'.cell? ⟨b,o+3,none⟩=some (B b3)/\w'.cell? ⟨b,o+4,none⟩=some (B b4)/\w'.cell? ⟨b,o+5,none⟩=some (B b5)/\w'.cell? ⟨b,o+6,none⟩=some (B b6)) (⟨d0,d1,d2,d3,d4,d5,d6⟩) fun _=>?_
 iterate 23 (refine tkA ?_;go_frame)
 refine rd1 23 fun K hK=>?_
 go_simp;refine hK.out _ _ (⟨(World.cell?_alloc_lt _ _ _ hlt).trans d0,(World.cell?_alloc_lt _ _ _ hlt).trans d1,(World.cell?_alloc_lt _ _ _ hlt).trans d2,(World.cell?_alloc_lt _ _ _ hlt).trans d3,(World.cell?_alloc_lt _ _ _ hlt).trans d4,(World.cell?_alloc_lt _ _ _ hlt).trans d5,(World.cell?_alloc_lt _ _ _ hlt).trans d6⟩) (fun _=>?_);clear hK K;try go_frame
 refine rd1 24 fun K hK=>?_
 rw[if_pos (by rfl)];refine BN 46 (.tmp 6) (.tmp 44) rfl W.heap.size (⟨(b0.toNat:Int),(b1.toNat:Int),(b2.toNat:Int),(b3.toNat:Int),(b4.toNat:Int),(sp:Int),Nm.zero,Nm.zero⟩:Vt).cells rfl rfl 46 Ad (Blk.new W.drew _ _) rfl Bk (fun u hu=>BO (⟨(b0.toNat:Int),(b1.toNat:Int),(b2.toNat:Int),(b3.toNat:Int),(b4.toNat:Int),(sp:Int),Nm.zero,Nm.zero⟩:Vt) hu) rfl ?_;intro w1 hV1 hg1 hs1;refine hK.out _ _ (⟨(World.cell?_of_block (a:=⟨b,o,none⟩) (hg1.block b (by simp;omega) (by simp;omega))).trans ((World.cell?_alloc_lt _ _ _ hlt).trans d0),(World.cell?_of_block (a:=⟨b,o+1,none⟩) (hg1.block b (by simp;omega) (by simp;omega))).trans ((World.cell?_alloc_lt _ _ _ hlt).trans d1),(World.cell?_of_block (a:=⟨b,o+2,none⟩) (hg1.block b (by simp;omega) (by simp;omega))).trans ((World.cell?_alloc_lt _ _ _ hlt).trans d2),(World.cell?_of_block (a:=⟨b,o+3,none⟩) (hg1.block b (by simp;omega) (by simp;omega))).trans ((World.cell?_alloc_lt _ _ _ hlt).trans d3),(World.cell?_of_block (a:=⟨b,o+4,none⟩) (hg1.block b (by simp;omega) (by simp;omega))).trans ((World.cell?_alloc_lt _ _ _ hlt).trans d4),(World.cell?_of_block (a:=⟨b,o+5,none⟩) (hg1.block b (by simp;omega) (by simp;omega))).trans ((World.cell?_alloc_lt _ _ _ hlt).trans d5),(World.cell?_of_block (a:=⟨b,o+6,none⟩) (hg1.block b (by simp;omega) (by simp;omega))).trans ((World.cell?_alloc_lt _ _ _ hlt).trans d6)⟩) (fun _=>?_);clear hK K;try go_frame
 refine dnD ?_;clear d0 d1 d2 d3 d4 d5 d6;have hR1:Blk w1 w.heap.size 46 Ad:=(hR.drew.alloc _).kept hg1 (by have:=hR.lt;simp;omega);have xQ:ZN w w1:=(hbW.drew.alloc hbW.size _).grown hg1 (by have:=hbW.size;simp;omega) (by rintro j ⟨⟩;exact hbW.size);have hWl:=hR.lt;clear hR hbW hg1 hs1 hw0 hw1 hw2 hw3 hw4 hw5 hw6 hw7;have i1:(23:Int)<=(c:Int):=by omega
 have i2:¬c=7:=by omega
 have i3:¬c=15:=by omega
 have i4:(15:Int)<=(c:Int):=by omega
 go_wp2;refine wp_region_still_tail 4 (by kernel_rfl) (by kernel_rfl) ?_;simp only[List.take_succ_cons,List.take_zero,List.drop_succ_cons,List.drop_zero]
 iterate 4 still_step
 refine wpStill_nil ?_;change wpList _ _ _ _ _ w1.drew;refine wpList_copy_splice rfl (.tmp 46) (.tmp 48) _ _ rfl 5 underlying60 (by kernel_rfl) _ _ _ _ _ _ rfl rfl W.heap.size 6 (Vt.cells (⟨(b0.toNat:Int),(b1.toNat:Int),(b2.toNat:Int),(b3.toNat:Int),(b4.toNat:Int),(sp:Int),Nm.zero,Nm.zero⟩:Vt)).toList 46 hV1.drew (nmc p) ?c11 ?c12 ?c13 ?c14 W.heap.size w1.drew (AC _ _) (AB _) ?_
 case c11=>rfl
 case c12=>
  intro _;refine⟨rfl,_,rfl,fun j v hv=>?_⟩;rw[Addr.add_mid];exact((xQ.drew).cell (p:=⟨b,o+7+j,none⟩) hb).trans (HP.out j v hv)
 case c13=>simp
 case c14=>exact fun u hu=>Ba (l:=p.bytes) (by simpa[Nm.bytes]using hu)
 intro w2 hg2 hb2;have hV2:Blk w2 W.heap.size 46 (Vt.cells {(⟨(b0.toNat:Int),(b1.toNat:Int),(b2.toNat:Int),(b3.toNat:Int),(b4.toNat:Int),(sp:Int),Nm.zero,Nm.zero⟩:Vt)with parent:=p}):=hg2.out;have hR2:=(hR1.drew).below hb2 hWl;have xB:ZN w w2:=(xQ.drew).trans (hb2.mono (by omega));clear hV1 hR1 xQ hb2 hg2;go_frame;go_wp2;refine wp_region_still_tail 4 (by kernel_rfl) (by kernel_rfl) ?_;simp only[List.take_succ_cons,List.take_zero,List.drop_succ_cons,List.drop_zero]
 iterate 4 still_step
 refine wpStill_nil ?_;change wpList _ _ _ _ _ w2.drew;refine wpList_copy_splice rfl (.tmp 51) (.tmp 53) _ _ rfl 5 underlying60 (by kernel_rfl) _ _ _ _ _ _ rfl rfl W.heap.size 14 (Vt.cells {(⟨(b0.toNat:Int),(b1.toNat:Int),(b2.toNat:Int),(b3.toNat:Int),(b4.toNat:Int),(sp:Int),Nm.zero,Nm.zero⟩:Vt)with parent:=p}).toList 46 hV2.drew (nmc q) ?c21 ?c22 ?c23 ?c24 W.heap.size w2.drew (AC _ _) (AB _) ?_
 case c21=>rfl
 case c22=>
  intro _;refine⟨rfl,_,rfl,fun j v hv=>?_⟩;rw[Addr.add_mid];exact((xB.drew).cell (p:=⟨b,o+15+j,none⟩) hb).trans (HQ.out j v hv)
 case c23=>simp
 case c24=>exact fun u hu=>Ba (l:=q.bytes) (by simpa[Nm.bytes]using hu)
 intro w3 hg3 hb3;have hV3:Blk w3 W.heap.size 46 V.cells:=by rw[HE.out];exact hg3.out
 have hR3:=(hR2.drew).below hb3 hWl;have xJ:ZN w w3:=(xB.drew).trans (hb3.mono (by omega));clear hV2 hR2 xB hb3 hg3;go_frame;have x0:=hV3.row 22 rfl;have hl3:=hV3.lt;go_wp2_with fail
 refine(HV.out _).mono ?_;rintro en w4 ⟨rfl,hb4⟩;have hV4:=hV3.below hb4 hV3.lt;have hR4:=hR3.below hb4 hR3.lt;have xE:=xJ.trans (hb4.mono xJ.size);clear hV3 hR3 xJ hb4 x0;have x4:=hV4.row 22 rfl;go_wp2_with (refine AI rfl 46 (.tmp 2) (.tmp 58) rfl w.heap.size _ rfl rfl 46 _ hR4 rfl Bk ?s9 ?_)
 case s9=>exact⟨rfl,rfl⟩
 intro w5 hR5 hg5 hs5;go_wp2;exact bodyPost_ret (AW (g:=w.heap.size) (cs:=Ad) rfl _ _ _ _ _ rfl hR5 underlying46 rfl Bk) rfl ⟨rfl,xE.grown hg5 xE.size (by rintro j ⟨⟩;omega)⟩
theorem OL(A:Option Addr)(c:Nat)(l:List UInt8)(w:World)(hr:Rd w w.heap.size A (l.map B))(hc:l.length<=c)(hm:c<=maxLen):Calls prog 157 #[.slice A l.length c] w (Eh w (Cp l).1 (Cp l).2):=by
 unfold Cp;by_cases h1:l.length<23
 ·rw[if_pos h1];exact Po A l.length c w h1
 ·by_cases h2:23<l.length
  ·rw[if_neg h1,if_pos h2];exact R7 A l.length c w h2
  ·have h23:l.length=23:=by omega
   obtain⟨b,o,rfl,hb,xH⟩:=hr.cells (by intro e;rw[List.map_eq_nil_iff]at e;subst e;simp at h23);have key:∀j,j<23->w.cell? ⟨b,o+j,none⟩=some (B (l.getD j 0)):=fun j hj=>xH j _ (by rw[AQ,EU 0 (by omega)];rfl)
   have kp:∀k,k+8<=23->∀j u,(nmc (Nm.ofList (l.drop k)))[j]? =some u->w.cell? ⟨b,o+k+j,none⟩=some u:=fun k hk j u hu=>by
    rw[It _ (by simp;omega)]at hu;rw[Nat.add_assoc];refine xH _ u ?_;rw[List.map_take,BP]at hu;split at hu
    ·rw[<-hu,List.map_drop,List.getElem?_drop]
    ·cases hu
   have hu:∀W,ZN w W->Calls prog 201 #[.slice (some ⟨b,o,none⟩) l.length c,.int .i64 5,.int .i64 2] W fun e w'=>e= .returned (.tuple #[.int .u64 (((l.getD 5 0).toNat*256+(l.getD 6 0).toNat:Nat):Int),.bool true])/\w'=W:=fun W hW=>by
    have h:=OU (some ⟨b,o,none⟩) c 5 2 l W ((hr.below hW).more hW.size) (by omega) hc hm (by omega) (by omega) (by omega);have e:Cf ((l.drop 5).take 2)=(l.getD 5 0).toNat*256+(l.getD 6 0).toNat:=by
     have:=Yn (l.drop 5) (by simp;omega);simpa[Cv]using this
    rw[e]at h;exact h
   rw[if_neg h1,if_neg h2];rw[h23]at hu hc ⊢;by_cases hy:Ab (Oa l)
   ·rw[if_pos hy];exact UC b o c _ _ _ _ _ _ _ _ _ _ (Oa l) w hc hm hb (key 0 (by omega)) (key 1 (by omega)) (key 2 (by omega)) (key 3 (by omega)) (key 4 (by omega)) (key 5 (by omega)) (key 6 (by omega)) (kp 7 (by omega)) (kp 15 (by omega)) rfl rfl (M6 l) hy hu
   ·rw[if_neg hy];exact UD b o c _ _ _ _ _ _ _ _ _ _ (Oa l) w hc hm hb (key 0 (by omega)) (key 1 (by omega)) (key 2 (by omega)) (key 3 (by omega)) (key 4 (by omega)) (key 5 (by omega)) (key 6 (by omega)) (kp 7 (by omega)) (kp 15 (by omega)) rfl rfl (M6 l) hy hu
def Kt(w:World)(v:Vt)(sig:List UInt8)(e:Ending)(w':World):Prop:=
 ∃A c,e= .returned (.tuple #[(Sg.mk v sig A c).val,.int .i64 0])/\(∀p,A=some p->w.heap.size<=p.block)/\Rd w' w'.heap.size A (sig.map B)/\sig.length<=c/\c<=maxLen/\ZN w w'
def KF(w:World)(n:Int)(e:Ending)(w':World):Prop:=e= .returned (.tuple #[.agg Al,.int .i64 n])/\ZN w w'
theorem UE(b o c:Nat)(v:Vt)(sig:List UInt8)(hsl:sig.length=370)(w:World)(hc:393<=c)(hm:c<=maxLen)(hd:∀W,ZN w W->Calls prog 157 #[.slice (some ⟨b,o,none⟩) 23 c] W (Eh W v 0))(ha:∀W,ZN w W->Calls prog 80 #[.slice (some ⟨b,o+23,none⟩) 370 (c-23),.int .u64 0,.int .i64 0] W (Ca W 5 1 370 (sig.map B))):Calls prog 108 #[.slice (some ⟨b,o,none⟩) 393 c] w (Kt w v sig):=by
 have HD:=AA hd;clear hd;have HSL:=AA hsl;clear hsl;have HA:=AA ha;clear ha;unfold maxLen at hm;have i1:(23:Int)<=(c:Int):=by omega
 have i2:¬c=23:=by omega
 have i3:(393:Int)<=(c:Int):=by omega
 go_enter func108,ntmps108;go_wp2_with fail
 have hR:Blk (w.alloc (Obj.cells Al 62)) w.heap.size 62 Al:=Blk.new w _ _;have hbW:ZN w (w.alloc (Obj.cells Al 62)):=(AC _ _).alloc (AB _) _;generalize (w.alloc (Obj.cells Al 62))=W at*;refine(HD.out _ hbW).mono ?_;rintro en w1 ⟨rfl,hb1⟩;have hR1:=hR.below hb1 hR.lt;have xQ:=hbW.trans (hb1.mono hbW.size);have hl1:=hR1.lt;clear hR hbW hb1;go_wp2_with (refine AI rfl 46 (.tmp 4) (.tmp 20) rfl w1.heap.size v.cells rfl rfl 46 Ad (Blk.new w1 _ _) rfl Bk (fun u hu=>BO v hu) ?_)
 intro w2 hV2 hg2 hs2;have hR2:=(hR1.alloc (Obj.cells Ad 46)).kept hg2 (by simp;omega);have xB:ZN w w2:=(xQ.alloc xQ.size _).grown hg2 (by have:=xQ.size;simp;omega) (by rintro j ⟨⟩;exact xQ.size);have hne:w.heap.size≠w1.heap.size:=by omega
 clear hR1 xQ hg2 hs2 hl1;have x2:=hV2.row 22 rfl;go_wp2;have hl2:=hV2.lt;refine rgD (fun w'=>AJ w' w1.heap.size 0 22=some v.cells) (hV2.row 22 rfl) fun _=>?_
 iterate 3 (refine tkA ?_;go_frame)
 refine rd1 3 fun K hK=>?_
 go_simp;refine(HA.out _ xB.drew).mono ?_;rintro en w3 ⟨A3,c3,rfl,xD,hb3⟩;have hV3:=hV2.drew.below hb3 hV2.lt;have hR3:=hR2.drew.below hb3 hR2.lt;have xJ:=xB.trans (((AC _ _).drew.trans hb3).mono xB.size);go_wp2_with fail
 refine hK.out _ _ (hV3.row 22 rfl) (fun _=>?_);clear hK K;try go_frame
 refine tkD 30 4 ?_;go_frame;refine rd1 5 fun K hK=>?_
 rw[if_pos (by rfl)];refine BN 62 (.tmp 2) (.tmp 30) (by rfl) w.heap.size (Sg.mk v sig A3 c3).cells (by rfl) (by simp only[Sg.cells,HSL.out];rfl) 62 Al hR3 rfl Bm (fun u hu=>GP _ hu) rfl ?_;intro w4 hR4 hg4 hs4;have hV4:=hV3.kept hg4 (by simpa using hne.symm);refine hK.out _ _ (hV4.row 22 rfl) (fun _=>?_);clear hK K;try go_frame
 refine tkD 3 6 ?_;go_frame;refine dnD ?_;go_wp2;refine bodyPost_ret (AW (g:=w.heap.size) (cs:=(Sg.mk v sig A3 c3).cells) rfl _ _ _ _ _ rfl hR4 underlying62 rfl Bm) rfl ?_;obtain⟨A3',c3',hv3,hc3,hm3⟩:=Ql xD (by omega);injection hv3 with hA3 hn3 hcc3
 subst hcc3;have xZ:=xD.kept hg4 (.inr fun e=>Px xD (show w.heap.size<w2.heap.size from hR2.lt) e.symm);exact⟨A3,c3,rfl,fun p hp=>AG (Nat.le_of_lt (show w.heap.size<w2.heap.size from hR2.lt)) (Ui xD p hp),Rd.of_own xZ,by rw[HSL.out];exact hc3,hm3,xJ.grown hg4 xJ.size (by rintro j ⟨⟩;omega)⟩
theorem UF(b o c:Nat)(v:Vt)(n:Int)(hn:(n !=0)=true)(w:World)(hc:393<=c)(hm:c<=maxLen)(hd:∀W,ZN w W->Calls prog 157 #[.slice (some ⟨b,o,none⟩) 23 c] W (Eh W v n)):Calls prog 108 #[.slice (some ⟨b,o,none⟩) 393 c] w (KF w n):=by
 have HD:=AA hd;clear hd;unfold maxLen at hm;have i1:(23:Int)<=(c:Int):=by omega
 have i2:¬c=23:=by omega
 have i3:(393:Int)<=(c:Int):=by omega
 go_enter func108,ntmps108;go_wp2_with fail
 have hR:Blk (w.alloc (Obj.cells Al 62)) w.heap.size 62 Al:=Blk.new w _ _;have hbW:ZN w (w.alloc (Obj.cells Al 62)):=(AC _ _).alloc (AB _) _;generalize (w.alloc (Obj.cells Al 62))=W at*;refine(HD.out _ hbW).mono ?_;rintro en w1 ⟨rfl,hb1⟩;have hR1:=hR.below hb1 hR.lt;have xQ:=hbW.trans (hb1.mono hbW.size);have hl1:=hR1.lt;clear hR hbW hb1;go_wp2_with (refine AI rfl 46 (.tmp 4) (.tmp 20) rfl w1.heap.size v.cells rfl rfl 46 Ad (Blk.new w1 _ _) rfl Bk (fun u hu=>BO v hu) ?_)
 intro w2 hV2 hg2 hs2;have hR2:=(hR1.alloc (Obj.cells Ad 46)).kept hg2 (by simp;omega);have xB:ZN w w2:=(xQ.alloc xQ.size _).grown hg2 (by have:=xQ.size;simp;omega) (by rintro j ⟨⟩;exact xQ.size);have hne:w.heap.size≠w1.heap.size:=by omega
 clear hR1 xQ hg2 hs2 hl1;have hl2:=hV2.lt;go_wp2_with (refine AI rfl 62 (.tmp 2) (.tmp 24) rfl w.heap.size Al rfl rfl 62 _ hR2 rfl Bm (fun u hu=>IH hu) ?_)
 intro w5 hR5 hg5 hs5;go_wp2;exact bodyPost_ret (AW (g:=w.heap.size) (cs:=Al) rfl _ _ _ _ _ rfl hR5 underlying62 rfl Bm) rfl ⟨rfl,xB.grown hg5 xB.size (by rintro j ⟨⟩;omega)⟩
theorem Mx(A:Option Addr)(c:Nat)(l:List UInt8)(w:World)(hr:Rd w w.heap.size A (l.map B))(hl:l.length=393)(hc:393<=c)(hm:c<=maxLen)(h0:(Cp (l.take 23)).2=0):Calls prog 108 #[.slice A 393 c] w (Kt w (Cp (l.take 23)).1 (l.drop 23)):=by
 obtain⟨b,o,rfl,hb,xH⟩:=hr.cells (by intro e;rw[List.map_eq_nil_iff]at e;subst e;simp at hl);have hs:Rd w w.heap.size (some ⟨b,o+23,none⟩) ((l.drop 23).map B):=Rd.mk hb fun j u hu=>by
  rw[Nat.add_assoc];exact xH _ u (by rw[List.map_drop,List.getElem?_drop]at hu;exact hu)
 refine UE b o c (Cp (l.take 23)).1 (l.drop 23) (by simp;omega) w hc hm (fun W hW=>?_) (fun W hW=>?_)
 ·have h:=OL (some ⟨b,o,none⟩) c (l.take 23) W (by rw[List.map_take];exact((hr.below hW).more hW.size).take 23) (by simp;omega) hm;rw[h0,AZ,show min 23 l.length=23 from by omega]at h;exact h
 ·have h:=NQ (some ⟨b,o+23,none⟩) (l.drop 23).length (c-23) 0 ((l.drop 23).map B) W (by simp) ((hs.below hW).more hW.size) (fun u hu=>Ba hu) (by simp;omega);rw[show(l.drop 23).length=370 from by simp;omega]at h;exact h
theorem OM(A:Option Addr)(c:Nat)(l:List UInt8)(w:World)(hr:Rd w w.heap.size A (l.map B))(hl:l.length=393)(hc:393<=c)(hm:c<=maxLen)(h0:¬(Cp (l.take 23)).2=0):Calls prog 108 #[.slice A 393 c] w (KF w (Cp (l.take 23)).2):=by
 obtain⟨b,o,rfl,hb,xH⟩:=hr.cells (by intro e;rw[List.map_eq_nil_iff]at e;subst e;simp at hl);refine UF b o c (Cp (l.take 23)).1 _ (by simpa using h0) w hc hm (fun W hW=>?_);have h:=OL (some ⟨b,o,none⟩) c (l.take 23) W (by rw[List.map_take];exact((hr.below hW).more hW.size).take 23) (by simp;omega) hm;rw[AZ,show min 23 l.length=23 from by omega]at h;exact h
theorem WA(b o c:Nat)(v:Vt)(sig:List UInt8)(v':Vt)(sig':List UInt8)(w:World)(hc:786<=c)(hm:c<=maxLen)(hd1:∀W,ZN w W->Calls prog 108 #[.slice (some ⟨b,o,none⟩) 393 c] W (Kt W v sig))(hd2:∀W,ZN w W->Calls prog 108 #[.slice (some ⟨b,o+393,none⟩) 393 (c-393)] W (Kt W v' sig')):Calls prog 69 #[.slice (some ⟨b,o,none⟩) 786 c] w (T7 w v sig v' sig'):=by
 have HD1:=AA hd1;clear hd1;have HD2:=AA hd2;clear hd2;unfold maxLen at hm;have i1:(393:Int)<=(c:Int):=by omega
 have i2:¬c=393:=by omega
 have i3:(786:Int)<=(c:Int):=by omega
 go_enter func69,ntmps69;go_wp2_with fail
 have hR:Blk (w.alloc (Obj.cells B7 125)) w.heap.size 125 B7:=Blk.new w _ _;have hbW:ZN w (w.alloc (Obj.cells B7 125)):=(AC _ _).alloc (AB _) _;generalize (w.alloc (Obj.cells B7 125))=W at*;refine(HD1.out _ hbW).mono ?_;rintro en w1 ⟨A1,c1,rfl,hn1,hr1,hc1,hm1,hb1⟩;have H1:=AA hr1;clear hr1;have N1:Hid (∀p,A1=some p->w.heap.size+1<=p.block):=fun p hp=>AG hR.lt (hn1 p hp)
 clear hn1;have hR1:=hR.below hb1 hR.lt;have xQ:=hbW.trans (hb1.mono hbW.size);have hl1:=hR1.lt;clear hR hbW hb1;go_wp2_with (refine AI rfl 62 (.tmp 4) (.tmp 21) rfl w1.heap.size (Sg.mk v sig A1 c1).cells rfl rfl 62 Al (Blk.new w1 _ _) (by first|rfl|(rw[Sg.size_cells];rfl)) (by first|exact Bm|(rw[Sg.size_cells];exact Bm)) (fun u hu=>GP _ hu) ?_)
 intro w2 hV2 hg2 hs2;have hR2:=(hR1.alloc (Obj.cells Al 62)).kept hg2 (by simp;omega);have xB:ZN w w2:=(xQ.alloc xQ.size _).grown hg2 (by have:=xQ.size;simp;omega) (by rintro j ⟨⟩;exact xQ.size);have hne:w.heap.size≠w1.heap.size:=by omega
 have hHs:w1.heap.size<w2.heap.size:=hV2.lt;have hr2:Rd w2 w1.heap.size A1 (sig.map B):=(H1.out.alloc (AB _) (Obj.cells Al 62)).keep fun p hp=>World.cell?_of_block (hg2.block p.block (by simp;omega) (by simp;omega))
 clear hR1 xQ hg2 hs2 hl1;go_wp2_with fail
 refine(HD2.out _ xB).mono ?_;rintro en w3 ⟨A3,c3,rfl,hn3,hr3,hc3,hm3,hb3⟩;have H3:=AA hr3;clear hr3;have N3:Hid (∀p,A3=some p->w.heap.size+1<=p.block):=fun p hp=>AG hR2.lt (hn3 p hp)
 clear hn3;have hV3:=hV2.below hb3 hV2.lt;have hR3:=hR2.below hb3 hR2.lt;have xJ:=xB.trans (hb3.mono xB.size);have hr3:Rd w3 w1.heap.size A1 (sig.map B):=hr2.below (hb3.mono (by omega));have hl3:=hR3.lt;have hl13:=hV3.lt;clear hR2 xB hb3 hV2 hr2;go_wp2_with (refine AI rfl 62 (.tmp 6) (.tmp 31) rfl w3.heap.size (Sg.mk v' sig' A3 c3).cells rfl rfl 62 Al (Blk.new w3 _ _) (by first|rfl|(rw[Sg.size_cells];rfl)) (by first|exact Bm|(rw[Sg.size_cells];exact Bm)) (fun u hu=>GP _ hu) ?_)
 intro w4 hY4 hg4 hs4;have hR4:=(hR3.alloc (Obj.cells Al 62)).kept hg4 (by simp;omega);have hV4:=(hV3.alloc (Obj.cells Al 62)).kept hg4 (by simp;omega);have xE:ZN w w4:=(xJ.alloc xJ.size _).grown hg4 (by have:=xJ.size;simp;omega) (by rintro j ⟨⟩;exact xJ.size);have hl4:=hY4.lt;have hr4:Rd w4 w1.heap.size A1 (sig.map B):=(hr3.alloc (by omega) (Obj.cells Al 62)).keep fun p hp=>World.cell?_of_block (hg4.block p.block (by simp;omega) (by simp;omega))
 have hy4:Rd w4 w3.heap.size A3 (sig'.map B):=(H3.out.alloc (AB _) (Obj.cells Al 62)).keep fun p hp=>World.cell?_of_block (hg4.block p.block (by simp;omega) (by simp;omega))
 clear hR3 xJ hg4 hs4 hV3 hr3;have x4:AJ w4 w1.heap.size 0 23=some (Uj v (.slice A1 sig.length c1)):=hV4.row 23 (Sg.size_cells _);have y4:AJ w4 w3.heap.size 0 23=some (Uj v' (.slice A3 sig'.length c3)):=hY4.row 23 (Sg.size_cells _);have HO:Hid (∀u∈(Uk v (.slice A1 sig.length c1) v' (.slice A3 sig'.length c3)).toList,u.oneCell'=true):=fun u hu=>JQ (Ev.mk ⟨v,sig,A1,c1⟩ ⟨v',sig',A3,c3⟩) (by rw[QA];exact hu)
 go_wp2_with (refine AI rfl 125 (.tmp 2) (.tmp 39) rfl w.heap.size (Uk v (.slice A1 sig.length c1) v' (.slice A3 sig'.length c3)) rfl rfl 125 B7 hR4 rfl De HO.out ?_)
 intro w5 hR5 hg5 hs5;rw[<-QA]at hR5;go_wp2;refine bodyPost_ret (AW (g:=w.heap.size) (cs:=(Ev.mk ⟨v,sig,A1,c1⟩ ⟨v',sig',A3,c3⟩).cells) rfl _ _ _ _ _ rfl hR5 underlying125 rfl (by rw[Ev.size_cells];exact De)) rfl ?_;refine⟨A1,c1,A3,c3,rfl,fun p hp=>?_,fun p hp=>?_,(hr4.kept hg5 (by omega) (fun p hp=>?_)).more (by omega),hc1,hm1,(hy4.kept hg5 (by omega) (fun p hp=>?_)).more (by omega),hc3,hm3,xE.grown hg5 xE.size (by rintro j ⟨⟩;omega)⟩
 ·have:=N1.out p hp;omega
 ·have:=N3.out p hp;omega
 ·have:=N1.out p hp;simp;omega
 ·have:=N3.out p hp;simp;omega
theorem R8(b o c:Nat)(n:Int)(hn:(n !=0)=true)(w:World)(hc:786<=c)(hm:c<=maxLen)(hd1:∀W,ZN w W->Calls prog 108 #[.slice (some ⟨b,o,none⟩) 393 c] W (KF W n)):Calls prog 69 #[.slice (some ⟨b,o,none⟩) 786 c] w (Mw w n):=by
 have HD1:=AA hd1;clear hd1;unfold maxLen at hm;have i1:(393:Int)<=(c:Int):=by omega
 have i2:¬c=393:=by omega
 have i3:(786:Int)<=(c:Int):=by omega
 go_enter func69,ntmps69;go_wp2_with fail
 have hR:Blk (w.alloc (Obj.cells B7 125)) w.heap.size 125 B7:=Blk.new w _ _;have hbW:ZN w (w.alloc (Obj.cells B7 125)):=(AC _ _).alloc (AB _) _;generalize (w.alloc (Obj.cells B7 125))=W at*;refine(HD1.out _ hbW).mono ?_;rintro en w1 ⟨rfl,hb1⟩;have hR1:=hR.below hb1 hR.lt;have xQ:=hbW.trans (hb1.mono hbW.size);have hl1:=hR1.lt;clear hR hbW hb1;go_wp2_with (refine AI rfl 62 (.tmp 4) (.tmp 21) rfl w1.heap.size Al rfl rfl 62 Al (Blk.new w1 _ _) (by first|rfl|(rw[Sg.size_cells];rfl)) (by first|exact Bm|(rw[Sg.size_cells];exact Bm)) (fun u hu=>IH hu) ?_)
 intro w2 hV2 hg2 hs2;have hR2:=(hR1.alloc (Obj.cells Al 62)).kept hg2 (by simp;omega);have xB:ZN w w2:=(xQ.alloc xQ.size _).grown hg2 (by have:=xQ.size;simp;omega) (by rintro j ⟨⟩;exact xQ.size);have hne:w.heap.size≠w1.heap.size:=by omega
 have hHs:w1.heap.size<w2.heap.size:=hV2.lt;clear hR1 xQ hg2 hs2 hl1;go_wp2_with (refine AI rfl 125 (.tmp 2) (.tmp 25) rfl w.heap.size B7 rfl rfl 125 _ hR2 rfl De (fun u hu=>P8 hu) ?_)
 intro w5 hR5 hg5 hs5;go_wp2;exact bodyPost_ret (AW (g:=w.heap.size) (cs:=B7) rfl _ _ _ _ _ rfl hR5 underlying125 rfl De) rfl ⟨rfl,xB.grown hg5 xB.size (by rintro j ⟨⟩;omega)⟩
theorem R9(b o c:Nat)(v:Vt)(sig:List UInt8)(n:Int)(hn:(n !=0)=true)(w:World)(hc:786<=c)(hm:c<=maxLen)(hd1:∀W,ZN w W->Calls prog 108 #[.slice (some ⟨b,o,none⟩) 393 c] W (Kt W v sig))(hd2:∀W,ZN w W->Calls prog 108 #[.slice (some ⟨b,o+393,none⟩) 393 (c-393)] W (KF W n)):Calls prog 69 #[.slice (some ⟨b,o,none⟩) 786 c] w (Mw w n):=by
 have HD1:=AA hd1;clear hd1;have HD2:=AA hd2;clear hd2;unfold maxLen at hm;have i1:(393:Int)<=(c:Int):=by omega
 have i2:¬c=393:=by omega
 have i3:(786:Int)<=(c:Int):=by omega
 go_enter func69,ntmps69;go_wp2_with fail
 have hR:Blk (w.alloc (Obj.cells B7 125)) w.heap.size 125 B7:=Blk.new w _ _;have hbW:ZN w (w.alloc (Obj.cells B7 125)):=(AC _ _).alloc (AB _) _;generalize (w.alloc (Obj.cells B7 125))=W at*;refine(HD1.out _ hbW).mono ?_;rintro en w1 ⟨A1,c1,rfl,hn1,hr1,hc1,hm1,hb1⟩;have H1:=AA hr1;clear hr1;have N1:Hid (∀p,A1=some p->w.heap.size+1<=p.block):=fun p hp=>AG hR.lt (hn1 p hp)
 clear hn1;have hR1:=hR.below hb1 hR.lt;have xQ:=hbW.trans (hb1.mono hbW.size);have hl1:=hR1.lt;clear hR hbW hb1;go_wp2_with (refine AI rfl 62 (.tmp 4) (.tmp 21) rfl w1.heap.size (Sg.mk v sig A1 c1).cells rfl rfl 62 Al (Blk.new w1 _ _) (by first|rfl|(rw[Sg.size_cells];rfl)) (by first|exact Bm|(rw[Sg.size_cells];exact Bm)) (fun u hu=>GP _ hu) ?_)
 intro w2 hV2 hg2 hs2;have hR2:=(hR1.alloc (Obj.cells Al 62)).kept hg2 (by simp;omega);have xB:ZN w w2:=(xQ.alloc xQ.size _).grown hg2 (by have:=xQ.size;simp;omega) (by rintro j ⟨⟩;exact xQ.size);have hne:w.heap.size≠w1.heap.size:=by omega
 have hHs:w1.heap.size<w2.heap.size:=hV2.lt;have hr2:Rd w2 w1.heap.size A1 (sig.map B):=(H1.out.alloc (AB _) (Obj.cells Al 62)).keep fun p hp=>World.cell?_of_block (hg2.block p.block (by simp;omega) (by simp;omega))
 clear hR1 xQ hg2 hs2 hl1;go_wp2_with fail
 refine(HD2.out _ xB).mono ?_;rintro en w3 ⟨rfl,hb3⟩;have hV3:=hV2.below hb3 hV2.lt;have hR3:=hR2.below hb3 hR2.lt;have xJ:=xB.trans (hb3.mono xB.size);have hr3:Rd w3 w1.heap.size A1 (sig.map B):=hr2.below (hb3.mono (by omega));have hl3:=hR3.lt;have hl13:=hV3.lt;clear hR2 xB hb3 hV2 hr2;go_wp2_with (refine AI rfl 62 (.tmp 6) (.tmp 31) rfl w3.heap.size Al rfl rfl 62 Al (Blk.new w3 _ _) (by first|rfl|(rw[Sg.size_cells];rfl)) (by first|exact Bm|(rw[Sg.size_cells];exact Bm)) (fun u hu=>IH hu) ?_)
 intro w4 hY4 hg4 hs4;have hR4:=(hR3.alloc (Obj.cells Al 62)).kept hg4 (by simp;omega);have hV4:=(hV3.alloc (Obj.cells Al 62)).kept hg4 (by simp;omega);have xE:ZN w w4:=(xJ.alloc xJ.size _).grown hg4 (by have:=xJ.size;simp;omega) (by rintro j ⟨⟩;exact xJ.size);have hl4:=hY4.lt;have hr4:Rd w4 w1.heap.size A1 (sig.map B):=(hr3.alloc (by omega) (Obj.cells Al 62)).keep fun p hp=>World.cell?_of_block (hg4.block p.block (by simp;omega) (by simp;omega))
 clear hR3 xJ hg4 hs4 hV3 hr3;go_wp2_with (refine AI rfl 125 (.tmp 2) (.tmp 35) rfl w.heap.size B7 rfl rfl 125 _ hR4 rfl De (fun u hu=>P8 hu) ?_)
 intro w5 hR5 hg5 hs5;go_wp2;exact bodyPost_ret (AW (g:=w.heap.size) (cs:=B7) rfl _ _ _ _ _ rfl hR5 underlying125 rfl De) rfl ⟨rfl,xE.grown hg5 xE.size (by rintro j ⟨⟩;omega)⟩
theorem WB(K:Option Addr)(n ck:Nat)(e:Ev)(before:Int)(w:World)(xg:∀W,Calls prog 26 #[e.a.vote.val,e.b.vote.val] W (Ac W false)):Calls prog 70 #[.slice K n ck,e.val,.int .i64 before] w (EL w 9):=by
 have HC:=AA xg;clear xg;have hE:Blk (w.alloc (Obj.cells e.cells 125)) w.heap.size 125 e.cells:=Blk.new w _ _;have hbW:ZN w (w.alloc (Obj.cells e.cells 125)):=(AC _ _).alloc (AB _) _;have x0:=e.row_va hE;have y0:=e.row_vb hE;have s0:(w.alloc (Obj.cells e.cells 125)).cell? ⟨w.heap.size,4,none⟩=some (I e.a.vote.signer):=(hE.cell 4).trans e.cell_signer;go_enter func70,ntmps70;go_wp2_with ((go_at_call 26;refine(HC.out _).mono ?_;rintro en w2 ⟨rfl,hb2⟩;have hE2:=hE.below hb2 hE.lt;have x2:=e.row_va hE2;have y2:=e.row_vb hE2;have s2:w2.cell? ⟨w.heap.size,4,none⟩=some (I e.a.vote.signer):=(hE2.cell 4).trans e.cell_signer;have xB:=hbW.trans (hb2.mono hbW.size)))
 go_ret;exact⟨rfl,xB⟩
theorem WC(K:Option Addr)(n ck:Nat)(e:Ev)(before:Int)(w:World)(xg:∀W,Calls prog 26 #[e.a.vote.val,e.b.vote.val] W (Ac W true))(xl:∀W,Calls prog 109 #[e.a.vote.val,e.b.vote.val] W (Ac W false)):Calls prog 70 #[.slice K n ck,e.val,.int .i64 before] w (EL w 9):=by
 have HC:=AA xg;clear xg;have HL:=AA xl;clear xl;have hE:Blk (w.alloc (Obj.cells e.cells 125)) w.heap.size 125 e.cells:=Blk.new w _ _;have hbW:ZN w (w.alloc (Obj.cells e.cells 125)):=(AC _ _).alloc (AB _) _;have x0:=e.row_va hE;have y0:=e.row_vb hE;have s0:(w.alloc (Obj.cells e.cells 125)).cell? ⟨w.heap.size,4,none⟩=some (I e.a.vote.signer):=(hE.cell 4).trans e.cell_signer;go_enter func70,ntmps70;go_wp2_with (first|(go_at_call 26;refine(HC.out _).mono ?_;rintro en w2 ⟨rfl,hb2⟩;have hE2:=hE.below hb2 hE.lt;have x2:=e.row_va hE2;have y2:=e.row_vb hE2;have s2:w2.cell? ⟨w.heap.size,4,none⟩=some (I e.a.vote.signer):=(hE2.cell 4).trans e.cell_signer;have xB:=hbW.trans (hb2.mono hbW.size))|(go_at_call 109;refine(HL.out _).mono ?_;rintro en w3 ⟨rfl,hb3⟩;have hE3:=hE2.below hb3 hE2.lt;have xJ:=xB.trans (hb3.mono xB.size)))
 go_ret;exact⟨rfl,xJ⟩
theorem WE(K:Option Addr)(n ck:Nat)(e:Ev)(before:Int)(w:World)(sn:Nat)(hsn:e.a.vote.signer=(sn:Int))(hle:(sn:Int)<=before)(xg:∀W,Calls prog 26 #[e.a.vote.val,e.b.vote.val] W (Ac W true))(xl:∀W,Calls prog 109 #[e.a.vote.val,e.b.vote.val] W (Ac W true)):Calls prog 70 #[.slice K n ck,e.val,.int .i64 before] w (EL w 10):=by
 have HC:=AA xg;clear xg;have HL:=AA xl;clear xl;have HS:=AA hsn;clear hsn;have hE:Blk (w.alloc (Obj.cells e.cells 125)) w.heap.size 125 e.cells:=Blk.new w _ _;have hbW:ZN w (w.alloc (Obj.cells e.cells 125)):=(AC _ _).alloc (AB _) _;have x0:=e.row_va hE;have y0:=e.row_vb hE;have s0:(w.alloc (Obj.cells e.cells 125)).cell? ⟨w.heap.size,4,none⟩=some (.int .i64 (sn:Int)):=by rw[<-HS.out];exact(hE.cell 4).trans e.cell_signer
 go_enter func70,ntmps70;go_wp2_with (first|(go_at_call 26;refine(HC.out _).mono ?_;rintro en w2 ⟨rfl,hb2⟩;have hE2:=hE.below hb2 hE.lt;have x2:=e.row_va hE2;have y2:=e.row_vb hE2;have s2:w2.cell? ⟨w.heap.size,4,none⟩=some (I e.a.vote.signer):=(hE2.cell 4).trans e.cell_signer;have xB:=hbW.trans (hb2.mono hbW.size))|(go_at_call 109;refine(HL.out _).mono ?_;rintro en w3 ⟨rfl,hb3⟩;have hE3:=hE2.below hb3 hE2.lt;have xJ:=xB.trans (hb3.mono xB.size)))
 go_ret;exact⟨rfl,xJ⟩
theorem WF(K:Option Addr)(n ck:Nat)(e:Ev)(before:Int)(w:World)(sn:Nat)(hsn:e.a.vote.signer=(sn:Int))(hle:¬(sn:Int)<=before)(hk:(n:Int)<=(sn:Int))(xg:∀W,Calls prog 26 #[e.a.vote.val,e.b.vote.val] W (Ac W true))(xl:∀W,Calls prog 109 #[e.a.vote.val,e.b.vote.val] W (Ac W true)):Calls prog 70 #[.slice K n ck,e.val,.int .i64 before] w (EL w 8):=by
 have HC:=AA xg;clear xg;have HL:=AA xl;clear xl;have HS:=AA hsn;clear hsn;have hd:decide ((n:Int)<=(sn:Int))=true:=by simp;omega
 have hd2:decide (n<=sn)=true:=by simp;omega
 have hE:Blk (w.alloc (Obj.cells e.cells 125)) w.heap.size 125 e.cells:=Blk.new w _ _;have hbW:ZN w (w.alloc (Obj.cells e.cells 125)):=(AC _ _).alloc (AB _) _;have x0:=e.row_va hE;have y0:=e.row_vb hE;have s0:(w.alloc (Obj.cells e.cells 125)).cell? ⟨w.heap.size,4,none⟩=some (.int .i64 (sn:Int)):=by rw[<-HS.out];exact(hE.cell 4).trans e.cell_signer
 go_enter func70,ntmps70;go_upto_region 6 with(first|(go_at_call 26;refine(HC.out _).mono ?_;rintro en w2 ⟨rfl,hb2⟩;have hE2:=hE.below hb2 hE.lt;have x2:=e.row_va hE2;have y2:=e.row_vb hE2;have s2:w2.cell? ⟨w.heap.size,4,none⟩=some (I e.a.vote.signer):=(hE2.cell 4).trans e.cell_signer;have xB:=hbW.trans (hb2.mono hbW.size))|(go_at_call 109;refine(HL.out _).mono ?_;rintro en w3 ⟨rfl,hb3⟩;have hE3:=hE2.below hb3 hE2.lt;have xJ:=xB.trans (hb3.mono xB.size)))
 refine rgD (fun _=>True) (trivial) fun _=>?_
 iterate 5 (refine tkA ?_;go_frame)
 refine skD 41 5 ?_;go_frame;refine skD 42 6 ?_;go_frame;refine skD 43 7 ?_;go_frame;refine skD 44 8 ?_;go_frame;refine skD 45 9 ?_;go_frame;refine skD 46 10 ?_;go_frame;refine skD 47 11 ?_;go_frame;refine skD 48 12 ?_;go_frame
 iterate 2 (refine tkA ?_;go_frame)
 refine skD 51 15 ?_;go_frame;refine skD 52 16 ?_;go_frame;refine skD 53 17 ?_;go_frame;refine skD 54 18 ?_;go_frame;refine skD 55 19 ?_;go_frame;refine skD 56 20 ?_;go_frame;refine skD 57 21 ?_;go_frame;refine skD 58 22 ?_;go_frame
 iterate 2 (refine tkA ?_;go_frame)
 refine dnD ?_;go_wp2;go_ret;exact⟨rfl,xJ.drew⟩
theorem WG(K:Option Addr)(n ck:Nat)(e:Ev)(before:Int)(w:World)(sn:Nat)(hsn:e.a.vote.signer=(sn:Int))(hle:¬(sn:Int)<=before)(b o:Nat)(hK:K=some ⟨b,o,none⟩)(key:Nm)(hk:(sn:Int)<(n:Int))(yq:∀W,ZN w W->AJ W b (o+sn*8) 8=some key.cells)(hv1:∀W,ZN w W->Calls prog 110 #[key.val,e.a.val] W (Ac W false))(xg:∀W,Calls prog 26 #[e.a.vote.val,e.b.vote.val] W (Ac W true))(xl:∀W,Calls prog 109 #[e.a.vote.val,e.b.vote.val] W (Ac W true)):Calls prog 70 #[.slice K n ck,e.val,.int .i64 before] w (EL w 8):=by
 have HC:=AA xg;clear xg;have HL:=AA xl;clear xl;have HS:=AA hsn;clear hsn;subst hK;have HK:=AA yq;clear yq;have HV1:=AA hv1;clear hv1;have i1:(0:Int)<=(sn:Int):=by omega
 have hd:decide ((n:Int)<=(sn:Int))=false:=by simp;omega
 have hd2:decide (n<=sn)=false:=by simp;omega
 have hE:Blk (w.alloc (Obj.cells e.cells 125)) w.heap.size 125 e.cells:=Blk.new w _ _;have hbW:ZN w (w.alloc (Obj.cells e.cells 125)):=(AC _ _).alloc (AB _) _;have x0:=e.row_va hE;have y0:=e.row_vb hE;have s0:(w.alloc (Obj.cells e.cells 125)).cell? ⟨w.heap.size,4,none⟩=some (.int .i64 (sn:Int)):=by rw[<-HS.out];exact(hE.cell 4).trans e.cell_signer
 go_enter func70,ntmps70;go_upto_region 6 with(first|(go_at_call 26;refine(HC.out _).mono ?_;rintro en w2 ⟨rfl,hb2⟩;have hE2:=hE.below hb2 hE.lt;have x2:=e.row_va hE2;have y2:=e.row_vb hE2;have s2:w2.cell? ⟨w.heap.size,4,none⟩=some (I e.a.vote.signer):=(hE2.cell 4).trans e.cell_signer;have xB:=hbW.trans (hb2.mono hbW.size))|(go_at_call 109;refine(HL.out _).mono ?_;rintro en w3 ⟨rfl,hb3⟩;have hE3:=hE2.below hb3 hE2.lt;have xJ:=xB.trans (hb3.mono xB.size)))
 refine rgD (fun w'=>AJ w' b (o+sn*8) 8=some key.cells/\AJ w' w.heap.size 0 23=some e.a.cells/\AJ w' w.heap.size 23 23=some e.b.cells) (⟨HK.out _ xJ.drew,e.row_a hE3.drew,e.row_b hE3.drew⟩) fun _=>?_
 iterate 11 (refine tkA ?_;go_frame)
 refine rd1 11 fun K hK=>?_
 go_simp;refine(HV1.out _ xJ.drew).mono ?_;rintro en w4 ⟨rfl,hb4⟩;have hE4:=hE3.drew.below hb4 hE3.lt;have xE:=xJ.trans (((AC _ _).drew.trans hb4).mono xJ.size);go_wp2_with fail
 refine hK.out _ _ (⟨HK.out _ xE,e.row_a hE4,e.row_b hE4⟩) (fun _=>?_);clear hK K;try go_frame
 iterate 3 (refine tkA ?_;go_frame)
 refine skD 51 15 ?_;go_frame;refine skD 52 16 ?_;go_frame;refine skD 53 17 ?_;go_frame;refine skD 54 18 ?_;go_frame;refine skD 55 19 ?_;go_frame;refine skD 56 20 ?_;go_frame;refine skD 57 21 ?_;go_frame;refine skD 58 22 ?_;go_frame
 iterate 2 (refine tkA ?_;go_frame)
 refine dnD ?_;go_wp2;go_ret;exact⟨rfl,xE⟩
theorem WH(K:Option Addr)(n ck:Nat)(e:Ev)(before:Int)(w:World)(sn:Nat)(hsn:e.a.vote.signer=(sn:Int))(hle:¬(sn:Int)<=before)(b o:Nat)(hK:K=some ⟨b,o,none⟩)(key:Nm)(hk:(sn:Int)<(n:Int))(yq:∀W,ZN w W->AJ W b (o+sn*8) 8=some key.cells)(hv1:∀W,ZN w W->Calls prog 110 #[key.val,e.a.val] W (Ac W true))(hv2:∀W,ZN w W->Calls prog 110 #[key.val,e.b.val] W (Ac W false))(xg:∀W,Calls prog 26 #[e.a.vote.val,e.b.vote.val] W (Ac W true))(xl:∀W,Calls prog 109 #[e.a.vote.val,e.b.vote.val] W (Ac W true)):Calls prog 70 #[.slice K n ck,e.val,.int .i64 before] w (EL w 8):=by
 have HC:=AA xg;clear xg;have HL:=AA xl;clear xl;have HS:=AA hsn;clear hsn;subst hK;have HK:=AA yq;clear yq;have HV1:=AA hv1;clear hv1;have HV2:=AA hv2;clear hv2;have i1:(0:Int)<=(sn:Int):=by omega
 have hd:decide ((n:Int)<=(sn:Int))=false:=by simp;omega
 have hd2:decide (n<=sn)=false:=by simp;omega
 have hE:Blk (w.alloc (Obj.cells e.cells 125)) w.heap.size 125 e.cells:=Blk.new w _ _;have hbW:ZN w (w.alloc (Obj.cells e.cells 125)):=(AC _ _).alloc (AB _) _;have x0:=e.row_va hE;have y0:=e.row_vb hE;have s0:(w.alloc (Obj.cells e.cells 125)).cell? ⟨w.heap.size,4,none⟩=some (.int .i64 (sn:Int)):=by rw[<-HS.out];exact(hE.cell 4).trans e.cell_signer
 go_enter func70,ntmps70;go_upto_region 6 with(first|(go_at_call 26;refine(HC.out _).mono ?_;rintro en w2 ⟨rfl,hb2⟩;have hE2:=hE.below hb2 hE.lt;have x2:=e.row_va hE2;have y2:=e.row_vb hE2;have s2:w2.cell? ⟨w.heap.size,4,none⟩=some (I e.a.vote.signer):=(hE2.cell 4).trans e.cell_signer;have xB:=hbW.trans (hb2.mono hbW.size))|(go_at_call 109;refine(HL.out _).mono ?_;rintro en w3 ⟨rfl,hb3⟩;have hE3:=hE2.below hb3 hE2.lt;have xJ:=xB.trans (hb3.mono xB.size)))
 refine rgD (fun w'=>AJ w' b (o+sn*8) 8=some key.cells/\AJ w' w.heap.size 0 23=some e.a.cells/\AJ w' w.heap.size 23 23=some e.b.cells) (⟨HK.out _ xJ.drew,e.row_a hE3.drew,e.row_b hE3.drew⟩) fun _=>?_
 iterate 11 (refine tkA ?_;go_frame)
 refine rd1 11 fun K hK=>?_
 go_simp;refine(HV1.out _ xJ.drew).mono ?_;rintro en w4 ⟨rfl,hb4⟩;have hE4:=hE3.drew.below hb4 hE3.lt;have xE:=xJ.trans (((AC _ _).drew.trans hb4).mono xJ.size);go_wp2_with fail
 refine hK.out _ _ (⟨HK.out _ xE,e.row_a hE4,e.row_b hE4⟩) (fun _=>?_);clear hK K;try go_frame
 iterate 9 (refine tkA ?_;go_frame)
 refine rd1 21 fun K hK=>?_
 go_simp;refine(HV2.out _ xE).mono ?_;rintro en w5 ⟨rfl,hb5⟩;have hE5:=hE4.below hb5 hE4.lt;have xP:=xE.trans (hb5.mono xE.size);go_wp2_with fail
 refine hK.out _ _ (⟨HK.out _ xP,e.row_a hE5,e.row_b hE5⟩) (fun _=>?_);clear hK K;try go_frame
 iterate 3 (refine tkA ?_;go_frame)
 refine dnD ?_;go_wp2;go_ret;exact⟨rfl,xP⟩
theorem WI(K:Option Addr)(n ck:Nat)(e:Ev)(before:Int)(w:World)(sn:Nat)(hsn:e.a.vote.signer=(sn:Int))(hle:¬(sn:Int)<=before)(b o:Nat)(hK:K=some ⟨b,o,none⟩)(key:Nm)(hk:(sn:Int)<(n:Int))(yq:∀W,ZN w W->AJ W b (o+sn*8) 8=some key.cells)(hv1:∀W,ZN w W->Calls prog 110 #[key.val,e.a.val] W (Ac W true))(hv2:∀W,ZN w W->Calls prog 110 #[key.val,e.b.val] W (Ac W true))(xg:∀W,Calls prog 26 #[e.a.vote.val,e.b.vote.val] W (Ac W true))(xl:∀W,Calls prog 109 #[e.a.vote.val,e.b.vote.val] W (Ac W true)):Calls prog 70 #[.slice K n ck,e.val,.int .i64 before] w (EL w 0):=by
 have HC:=AA xg;clear xg;have HL:=AA xl;clear xl;have HS:=AA hsn;clear hsn;subst hK;have HK:=AA yq;clear yq;have HV1:=AA hv1;clear hv1;have HV2:=AA hv2;clear hv2;have i1:(0:Int)<=(sn:Int):=by omega
 have hd:decide ((n:Int)<=(sn:Int))=false:=by simp;omega
 have hd2:decide (n<=sn)=false:=by simp;omega
 have hE:Blk (w.alloc (Obj.cells e.cells 125)) w.heap.size 125 e.cells:=Blk.new w _ _;have hbW:ZN w (w.alloc (Obj.cells e.cells 125)):=(AC _ _).alloc (AB _) _;have x0:=e.row_va hE;have y0:=e.row_vb hE;have s0:(w.alloc (Obj.cells e.cells 125)).cell? ⟨w.heap.size,4,none⟩=some (.int .i64 (sn:Int)):=by rw[<-HS.out];exact(hE.cell 4).trans e.cell_signer
 go_enter func70,ntmps70;go_upto_region 6 with(first|(go_at_call 26;refine(HC.out _).mono ?_;rintro en w2 ⟨rfl,hb2⟩;have hE2:=hE.below hb2 hE.lt;have x2:=e.row_va hE2;have y2:=e.row_vb hE2;have s2:w2.cell? ⟨w.heap.size,4,none⟩=some (I e.a.vote.signer):=(hE2.cell 4).trans e.cell_signer;have xB:=hbW.trans (hb2.mono hbW.size))|(go_at_call 109;refine(HL.out _).mono ?_;rintro en w3 ⟨rfl,hb3⟩;have hE3:=hE2.below hb3 hE2.lt;have xJ:=xB.trans (hb3.mono xB.size)))
 refine rgD (fun w'=>AJ w' b (o+sn*8) 8=some key.cells/\AJ w' w.heap.size 0 23=some e.a.cells/\AJ w' w.heap.size 23 23=some e.b.cells) (⟨HK.out _ xJ.drew,e.row_a hE3.drew,e.row_b hE3.drew⟩) fun _=>?_
 iterate 11 (refine tkA ?_;go_frame)
 refine rd1 11 fun K hK=>?_
 go_simp;refine(HV1.out _ xJ.drew).mono ?_;rintro en w4 ⟨rfl,hb4⟩;have hE4:=hE3.drew.below hb4 hE3.lt;have xE:=xJ.trans (((AC _ _).drew.trans hb4).mono xJ.size);go_wp2_with fail
 refine hK.out _ _ (⟨HK.out _ xE,e.row_a hE4,e.row_b hE4⟩) (fun _=>?_);clear hK K;try go_frame
 iterate 9 (refine tkA ?_;go_frame)
 refine rd1 21 fun K hK=>?_
 go_simp;refine(HV2.out _ xE).mono ?_;rintro en w5 ⟨rfl,hb5⟩;have hE5:=hE4.below hb5 hE4.lt;have xP:=xE.trans (hb5.mono xE.size);go_wp2_with fail
 refine hK.out _ _ (⟨HK.out _ xP,e.row_a hE5,e.row_b hE5⟩) (fun _=>?_);clear hK K;try go_frame
 iterate 3 (refine tkA ?_;go_frame)
 refine dnD ?_;go_wp2;go_ret;exact⟨rfl,xP⟩
theorem SA(K:Option Addr)(ck:Nat)(keys:List Nm)(e:Ev)(before:Int)(w:World)(hK:Rd w w.heap.size K (keys.flatMap nmc))(hE:GO w w.heap.size e)(hca:GA e.a)(hcb:GA e.b):Calls prog 70 #[.slice K keys.length ck,e.val,.int .i64 before] w (EL w (Du keys e.a.vote e.a.sig e.b.vote e.b.sig before)):=by
 have xg:=fun W=>UZ e.a.vote e.b.vote W hE.1.1 hE.2.1
 have xl:=fun W=>Gl e.a.vote e.b.vote W
 unfold Du;by_cases h1:CN e.a.vote e.b.vote
 ·rw[decide_eq_true h1]at xg;cases h2:BU e.a.vote e.b.vote
  ·rw[h2]at xl;rw[if_neg (by simp)];exact WC K keys.length ck e before w xg xl
  ·rw[h2]at xl;rw[if_pos ⟨h1,rfl⟩];have hb:=h1.2.2.1.bounds;obtain⟨sn,hsn⟩:=Int.eq_ofNat_of_zero_le hb.2.2.2.2.1.1;by_cases h3:e.a.vote.signer<=before
   ·rw[if_pos h3];exact WE K keys.length ck e before w sn hsn (by rw[<-hsn];exact h3) xg xl
   ·rw[if_neg h3];by_cases h4:(keys.length:Int)<=e.a.vote.signer
    ·rw[if_pos h4];exact WF K keys.length ck e before w sn hsn (by rw[<-hsn];exact h3) (by rw[<-hsn];exact h4) xg xl
    ·rw[if_neg h4];have hlt:sn<keys.length:=by omega
     have hx:=EU Nm.zero hlt;have hne:keys.flatMap nmc≠[]:=by
      intro e0;have:=AY nmc 8 keys (Cb keys);rw[e0]at this;simp at this;omega
     obtain⟨b,o,rfl,_,_⟩:=hK.cells hne;have yq:∀W,ZN w W->AJ W b (o+sn*8) 8=some (keys.getD sn Nm.zero).cells:=fun W hW=>(hK.below hW).row hx
     have hv1:=fun W (hW:ZN w W)=>K7 (keys.getD sn Nm.zero) e.a W ((hE.1.below hW).more hW.size) hca
     have hv2:=fun W (hW:ZN w W)=>K7 (keys.getD sn Nm.zero) e.b W ((hE.2.below hW).more hW.size) hcb
     rw[show e.a.vote.signer.toNat=sn from by rw[hsn];rfl];have h3':¬(sn:Int)<=before:=by rw[<-hsn];exact h3
     cases h5:Er (keys.getD sn Nm.zero) e.a.vote e.a.sig
     ·rw[h5]at hv1;rw[if_neg (by simp)];exact WG _ keys.length ck e before w sn hsn h3' b o rfl _ (by omega) yq hv1 xg xl
     ·rw[h5]at hv1;cases h6:Er (keys.getD sn Nm.zero) e.b.vote e.b.sig
      ·rw[h6]at hv2;rw[if_neg (by simp)];exact WH _ keys.length ck e before w sn hsn h3' b o rfl _ (by omega) yq hv1 hv2 xg xl
      ·rw[h6]at hv2;rw[if_pos ⟨rfl,rfl⟩];exact WI _ keys.length ck e before w sn hsn h3' b o rfl _ (by omega) yq hv1 hv2 xg xl
 ·rw[decide_eq_false h1]at xg;rw[if_neg (fun h=>h1 h.1)];exact WB K keys.length ck e before w xg
end
section
open Go.RowKit
def CF(l:List UInt8):Vt×Int:=Cp (l.take 23)
def DG(l:List UInt8):Vt×Int:=Cp ((l.drop 393).take 23)
def IA(l:List UInt8):List UInt8:=(l.take 393).drop 23
def Il(l:List UInt8):List UInt8:=((l.drop 393).take 393).drop 23
def G8(keys:List Nm)(l:List UInt8)(before:Int):Int:=
 if¬(CF l).2=0 then(CF l).2 else if¬(DG l).2=0 then(DG l).2 else Du keys (CF l).1 (IA l) (DG l).1 (Il l) before
def FB(keys:List Nm):Nat->List UInt8->Int->Nat->Int×Int
 |0,_,_,m=>((m:Int),0)
 |k+1,l,before,m=>
  if G8 keys l before=0 then FB keys k (l.drop 786) (CF l).1.signer (m|||2^(CF l).1.signer.toNat)else(0,G8 keys l before)
def My(keys:List Nm)(p:List UInt8):Int×Int:=
 match p with
 |[]=>(0,2)
 |n::r=>if n.toNat=0∨10<n.toNat then(0,4)else if r.length<n.toNat*786 then(0,2)else if n.toNat*786<r.length then(0,3)else FB keys n.toNat r (-1) 0
theorem Ku(l:List UInt8):(Cp l).1.ok:=by
 unfold Cp;split
 ·exact⟨by decide,by decide⟩
 ·split
  ·exact⟨by decide,by decide⟩
  ·split
   ·exact M6 l
   ·exact⟨by decide,by decide⟩
theorem ON{keys:List Nm}{a b:Vt}{s t:List UInt8}{before:Int}(h:Du keys a s b t before=0):CN a b/\BU a b=true/\before<a.signer/\a.signer<(keys.length:Int)/\Er (keys.getD a.signer.toNat Nm.zero) a s=true/\Er (keys.getD a.signer.toNat Nm.zero) b t=true:=by
 unfold Du at h;by_cases h1:CN a b/\BU a b=true
 ·rw[if_pos h1]at h;by_cases h2:a.signer<=before
  ·rw[if_pos h2]at h;exact absurd h (by decide)
  ·rw[if_neg h2]at h;by_cases h3:(keys.length:Int)<=a.signer
   ·rw[if_pos h3]at h;exact absurd h (by decide)
   ·rw[if_neg h3]at h;by_cases h4:Er (keys.getD a.signer.toNat Nm.zero) a s=true/\Er (keys.getD a.signer.toNat Nm.zero) b t=true
    ·exact⟨h1.1,h1.2,by omega,by omega,h4.1,h4.2⟩
    ·rw[if_neg h4]at h;exact absurd h (by decide)
 ·rw[if_neg h1]at h;exact absurd h (by decide)
theorem IB(l:List UInt8):CF (l.take 786)=CF l:=by
 unfold CF;rw[List.take_take];rfl
theorem IC(l:List UInt8):DG (l.take 786)=DG l:=by
 unfold DG;rw[List.drop_take,List.take_take];rfl
theorem SB(l:List UInt8):IA (l.take 786)=IA l:=by
 unfold IA;rw[List.take_take];rfl
theorem SC(l:List UInt8):Il (l.take 786)=Il l:=by
 have e:(l.take 786).drop 393=(l.drop 393).take 393:=by rw[List.drop_take]
 unfold Il;rw[e,List.take_take];rfl
theorem UG(l:List UInt8)(h:786<=l.length):(IA l).length=370:=by unfold IA;simp;omega
theorem UH(l:List UInt8)(h:786<=l.length):(Il l).length=370:=by unfold Il;simp;omega
theorem ID(l:List UInt8):((l.take 393).take 23)=l.take 23:=by rw[List.take_take];rfl
theorem Im(l:List UInt8):((l.drop 393).take 393).take 23=(l.drop 393).take 23:=by rw[List.take_take];rfl
theorem Rd.halves{w:World}{B' b o:Nat}{l:List UInt8}(h:Rd w B' (some ⟨b,o,none⟩) (l.map B)):Rd w B' (some ⟨b,o,none⟩) ((l.take 393).map B)/\Rd w B' (some ⟨b,o+393,none⟩) (((l.drop 393).take 393).map B):=by
 refine⟨by rw[List.map_take];exact h.take 393,?_⟩;rcases h with h|⟨b',o',e,hb,hc⟩
 ·rw[List.map_eq_nil_iff]at h;subst h;exact .inl (by simp)
 ·injection e with e
  injection e with e1 e2
  subst e1;subst e2;refine Rd.mk hb fun j u hu=>?_
  rw[Nat.add_assoc];refine hc _ u ?_;rw[List.map_take,BP]at hu;split at hu
  ·rw[<-hu,List.map_drop,List.getElem?_drop]
  ·cases hu
theorem OO(A:Option Addr)(c:Nat)(l:List UInt8)(w:World)(hr:Rd w w.heap.size A (l.map B))(hl:l.length=786)(hc:786<=c)(hm:c<=maxLen)(h1:(CF l).2=0)(h2:(DG l).2=0):Calls prog 69 #[.slice A 786 c] w (T7 w (CF l).1 (IA l) (DG l).1 (Il l)):=by
 obtain⟨b,o,rfl,_,_⟩:=hr.cells (by intro e;rw[List.map_eq_nil_iff]at e;subst e;simp at hl);refine WA b o c _ _ _ _ w hc hm (fun W hW=>?_) (fun W hW=>?_)
 ·have h:=Mx (some ⟨b,o,none⟩) c (l.take 393) W (((hr.below hW).more hW.size).halves.1) (by simp;omega) (by omega) hm (by rw[ID];exact h1);rw[ID]at h;exact h
 ·have h:=Mx (some ⟨b,o+393,none⟩) (c-393) ((l.drop 393).take 393) W (((hr.below hW).more hW.size).halves.2) (by simp;omega) (by omega) (by unfold maxLen at*;omega) (by rw[Im];exact h2);rw[Im]at h;exact h
theorem Mz(A:Option Addr)(c:Nat)(l:List UInt8)(w:World)(hr:Rd w w.heap.size A (l.map B))(hl:l.length=786)(hc:786<=c)(hm:c<=maxLen)(n:Int)(h:(¬(CF l).2=0/\(CF l).2=n)∨((CF l).2=0/\¬(DG l).2=0/\(DG l).2=n)):Calls prog 69 #[.slice A 786 c] w (Mw w n):=by
 obtain⟨b,o,rfl,_,_⟩:=hr.cells (by intro e;rw[List.map_eq_nil_iff]at e;subst e;simp at hl);rcases h with⟨h1,rfl⟩|⟨h1,h2,rfl⟩
 ·refine R8 b o c _ (by simpa using h1) w hc hm (fun W hW=>?_);have h:=OM (some ⟨b,o,none⟩) c (l.take 393) W (((hr.below hW).more hW.size).halves.1) (by simp;omega) (by omega) hm (by rw[ID];exact h1);rw[ID]at h;exact h
 ·refine R9 b o c (CF l).1 (IA l) _ (by simpa using h2) w hc hm (fun W hW=>?_) (fun W hW=>?_)
  ·have h:=Mx (some ⟨b,o,none⟩) c (l.take 393) W (((hr.below hW).more hW.size).halves.1) (by simp;omega) (by omega) hm (by rw[ID];exact h1);rw[ID]at h;exact h
  ·have h:=OM (some ⟨b,o+393,none⟩) (c-393) ((l.drop 393).take 393) W (((hr.below hW).more hW.size).halves.2) (by simp;omega) (by omega) (by unfold maxLen at*;omega) (by rw[Im];exact h2);rw[Im]at h;exact h
def Xh(R:Ending->World->Prop)(a:Act)(w:World):Prop:=
 ∃why:Int,R (.returned (.tuple #[.int .i64 0,.int .i64 why])) w/\∃u0 u1 u2 u3 u4 u5 u6 u7 u8 u10 u11 u12 u13 u14 u15 u16 u17 u18 u19 u20 u21 u22 u23 u24 u25 u26 u27 u28 u29 u30 u31 u32 u33 u34 u35 u36 u37 u38 u39 u40 u41 u42 u43 u44 u45 u46 u47 u48 u49 u50 u51 u52 u53 u54 u55 u56 u57 u58 u59 u60 u61 u62 u63 u64 u65 u66 u67 u68 u69 u70:Value,a={tmps:=#[u0,u1,u2,u3,u4,u5,u6,u7,u8,.int .i64 why,u10,u11,u12,u13,u14,u15,u16,u17,u18,u19,u20,u21,u22,u23,u24,u25,u26,u27,u28,u29,u30,u31,u32,u33,u34,u35,u36,u37,u38,u39,u40,u41,u42,u43,u44,u45,u46,u47,u48,u49,u50,u51,u52,u53,u54,u55,u56,u57,u58,u59,u60,u61,u62,u63,u64,u65,u66,u67,u68,u69,u70],defers:=[]}
end
end Go.Proofs.YtadllffeoibelaaGreat
