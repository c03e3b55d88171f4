/-
  What these parts of the proof come to, functions walked and plain laws: KeyT, Vr, Pd2. No condition.
-/
import Derived.Test.YtadllffeoibelaaGreatS12
import Derived.Test.YtadllffeoibelaaGreatS14
import Derived.Test.YtadllffeoibelaaGreatS10
import Derived.Test.YtadllffeoibelaaGreatS6
import Derived.Test.YtadllffeoibelaaGreatS8
namespace Go.Proofs.YtadllffeoibelaaGreat
set_option maxRecDepth 100000
set_option maxHeartbeats 32000000
set_option linter.all false
section
open Go.RowKit
attribute [local go_sem ↓] Go.wp_at_zero Go.wp_at_succ An
attribute [local go_sem] BD AN AW AQ
abbrev GO(g:Nat):Value:=.slice (some ⟨g,0,none⟩) 32 32
def GP(s:Nm)(w:World)(tl:List ((Int×Int)×Value)):Prop:=
 ∀k v,BR k tl=some v→∃level number g:Nat,k=((level:Int),(number:Int))∧v=GO g∧Ba w g 32 (ES s level number)
def Bc(s:Nm)(h m:Nat)(w:World):Prop:=Blk w h 152 (CI s m)∧h≠m∧∃tl,Cr DG w m tl∧GP s w tl
theorem GP.below{s:Nm}{w w':World}{tl:List ((Int×Int)×Value)}(h:GP s w tl)(hb:Below w.heap.size w w'):GP s w' tl:=fun k v hk=>by
 obtain⟨a,b,g,h1,h2,h3⟩:=h k v hk;exact⟨a,b,g,h1,h2,h3.below hb h3.lt⟩
theorem Bc.below{s:Nm}{h m:Nat}{w w':World}(hk:Bc s h m w)(hb:Below w.heap.size w w'):Bc s h m w':=by
 obtain⟨h1,h2,tl,h3,h4⟩:=hk;exact⟨h1.below hb h1.lt,h2,tl,h3.below hb h3.lt,h4.below hb⟩
theorem Bc.drew{s:Nm}{h m:Nat}{w:World}(hk:Bc s h m w):Bc s h m w.drew:=hk
theorem Cd{w:World}{g:Nat}{t t':TypeId}{cs cs':Array Value}(h:Blk w g t cs)(h':Blk w g t' cs'):t=t':=by
 unfold Blk at h h';rw[h]at h';injection h' with h'
 injection h' with _ ht
theorem Bc.far{s:Nm}{h m k t:Nat}{cs:Array Value}{w w':World}(hk:Bc s h m w)(hB:Blk w k t cs)(ht:t≠24)(ht2:t≠152)(hg:w.grownBy w' (some k)):Bc s h m w':=by
 obtain⟨h1,h2,tl,h3,h4⟩:=hk;have hm:m≠k:=by
  rintro rfl;obtain⟨es,c,h5,_⟩:=h3;unfold Blk at hB;rw[hB]at h5;cases h5
 refine⟨h1.kept hg (fun e=>?_),h2,tl,h3.kept hg (by simpa using hm),fun a b hab=>?_⟩
 ·injection e with e
  subst e;exact ht2 (Cd hB h1)
 ·obtain⟨l,n,g,e1,e2,e3⟩:=h4 a b hab;refine⟨l,n,g,e1,e2,e3.kept hg (fun e=>?_)⟩;injection e with e
  subst e;obtain⟨cur,hC,_⟩:=e3;exact ht (Cd hB hC)
theorem Bc.own{s:Nm}{h m base n:Nat}{v:Value}{xs:List Value}{w w':World}(hk:Bc s h m w)(ho:w.ownsRow base 5 1 v n xs)(hg:w.grownBy w' v.ownBlock):Bc s h m w':=by
 rcases ho.2 with⟨rfl,_⟩|⟨g,cap,cur,rfl,_,hh,_⟩
 ·obtain⟨h1,h2,tl,h3,h4⟩:=hk;have hg':w.grownBy w' none:=hg;refine⟨h1.kept hg' (by simp),h2,tl,h3.kept hg' (by simp),fun a b hab=>?_⟩;obtain⟨l,n,g,e1,e2,e3⟩:=h4 a b hab;exact⟨l,n,g,e1,e2,e3.kept hg' (by simp)⟩
 ·exact hk.far (k:=g) (t:=5) (cs:=cur) hh (by decide) (by decide) hg
theorem LI{P:Program}{kt:TypeId}{κ:Type}[DecidableEq κ]{enc:κ→Value}{ops:Array Oper}{rest:List Oper}{o:Oper}{a:Act}{w:World}{Q:Exit→Act→World→Prop}(hg:o.guard=none)(t e:TypeId)(mo ko vo:Operand)(ho:o.op= .mapUpdate t mo ko vo)(m:Nat)(k:κ)(v:Value)(l:List (κ×Value))(hm:a.eval mo= .map (some m))(hk:a.eval ko=enc k)(hv:a.eval vo=v)(h:Cr enc w m l)(K':Es P kt enc)(ht:P.underlying t=some (.map kt e))(hK:∀w',Cr enc w' m (CJ k v l)→w.grownBy w' (some m)→w'.heap.size=w.heap.size→wpList P ops Q rest (a.put o.dst undef) w'):wpList P ops Q (o::rest) a w:=by
 refine wpList_plain hg fun K hK2=>?_
 obtain⟨w',h1,h2,h3,h4⟩:=h.store K' ht k v (e:=e);unfold Oper.wp execOp;simp only[ho,hm,hk,hv,Sem.run_bind,h1,Result.andThen_ok,Sem.run_pure];exact hK2 _ _ (hK w' h2 h3 h4)
theorem Ir(s r:Nm)(h m level number j:Nat)(w:World)(hB:Blk w h 152 (CI s m))(hl:level≤2)(hn:number<32)(hj:j<32)(hr:LG s level number j=r):Calls Tryz.prog 140 #[.pointer (some ⟨h,0,none⟩),.int .i64 (level:Int),.int .i64 (number:Int),.int .i64 (j:Int)] w (BT w r):=by
 obtain⟨i0,hi,hz0,hz1,hz2⟩:=info_parts Bt;have hr2:De (48::(s.bytes++[UInt8.ofNat level,UInt8.ofNat (number/256),UInt8.ofNat number,UInt8.ofNat j]))=r:=hr;have Hr:=AA hr2;clear hr hr2;have hb1:=JS level (by omega);have hb4:=JS j (by omega);have e2:Bb number 1=UInt8.ofNat (number/256):=by simp[Bb]
 have e3:Bb number 0=UInt8.ofNat number:=by simp[Bb]
 rw[←e2,←e3]at Hr;generalize UInt8.ofNat level=b1 at*;generalize UInt8.ofNat j=b4 at*;have HB1:=AA hb1;clear hb1;have HB4:=AA hb4;clear hb4;clear e2 e3;have hWk:Blk (w.alloc (Obj.cells BG 24)) h 152 (CI s m):=hB.alloc _;have hR:Blk (w.alloc (Obj.cells BG 24)) w.heap.size 24 BG:=Blk.new w _ _;have hb:Below w.heap.size w (w.alloc (Obj.cells BG 24)):=(AC _ _).alloc (AB _) _;have hlt:=hB.lt;clear hB;go_enter Tryz.func140,Tryz.ntmps140;go_upto_region 1 with fail
 generalize (w.alloc (Obj.cells BG 24))=wr at*;have hltX:=hWk.lt;go_upto_region 2 with(at_builtin;refine wpList_append_grows _ rfl (.tmp 13) (.tmp 16) _ rfl 5 i0 (.int .u8 0) 1 1 Tryz.underlying60 hi hz0 hz1 hz2 rfl (by decide) (some ⟨h,0,none⟩) 8 8 (s.bytes.map B) rfl ?r0 rfl ?r1 ⟨wr.heap.size,0,none⟩ 1 1 [B b1] rfl rfl ?r2 ?r3 ?r4 ?r5 ?r6 ?_)
 case r0=>intro h;cases h
 case r1=>
  intro b hbe j u hu;injection hbe with hbe;subst hbe
  rw[Addr.add_mid,Nat.zero_add,(hWk.alloc _).cell];have hj8:j<8:=by
   have:=(AG.1 hu).1;simpa[Nm.bytes]using this
  rw[←hu];rcases j with _|_|_|_|_|_|_|_|j <;> first|rfl|omega
 case r2=>
  intro j u hu;rw[Addr.add_mid,Nat.zero_add,(Blk.new wr _ _).cell,←hu,HB1.out];simp
 case r3=>intro u hu;simp at hu;rcases hu with rfl;rfl
 case r4=>omega
 case r5=>unfold maxLen;omega
 case r6=>omega
 intro v2 w2 hown2 hg2;have hR2:=(hR.alloc _).kept hg2 (by simp);have hb2:=Ck (hb.alloc hb.size _) hg2;have e:s.bytes.map B++[B b1]=(s.bytes++[b1]).map B:=by simp
 rw[e]at hown2;obtain⟨A2,c2,rfl⟩:=Ar hown2;have HC2:Hid (Calls Tryz.prog 80 #[.slice A2 (8+1) c2,.int .u64 (number:Int),.int .i64 2] w2 (CV w2 5 1 11 ((s.bytes++[b1]++[Bb number 1,Bb number 0]).map B))):=by
  have h:=I4 A2 9 c2 number ((s.bytes++[b1]).map B) w2 (by simp[Nm.bytes]) (Rd.of_own hown2) (fun u hu=>B3 hu) (by omega);rw[Ac (l₂:=[Bb number 1,Bb number 0])];exact h
 clear e hown2 hg2 hWk hR hb;try go_frame
 go_upto_region 3 with(go_at_call 80;refine HC2.out.mono ?_;rintro en w3 ⟨A3,c3,rfl,hown3,hb3⟩;have hR3:=hR2.below hb3 hR2.lt;have hbw3:=hb2.trans (hb3.mono hb2.size);have hsz:=hb2.size;clear HC2)
 clear hR2 hb2;try go_frame
 have HT:Hid (∀(A4:Option Addr) (c4:Nat) (w4:World),w4.ownsRow w.heap.size 5 1 (.slice A4 (11+1) c4) (11+1) ((s.bytes++[b1]++[Bb number 1,Bb number 0]).map B++[B b4])→Calls Tryz.prog 50 #[.int .u8 48,.slice A4 (11+1) c4] w4 (BT w4 r)):=fun A4 c4 w4 ho=>by
  have e:(s.bytes++[b1]++[Bb number 1,Bb number 0]).map B++[B b4]=(s.bytes++[b1,Bb number 1,Bb number 0,b4]).map B:=by simp
  rw[e]at ho;exact B8 48 A4 c4 (s.bytes++[b1,Bb number 1,Bb number 0,b4]) r w4 (Rd.of_own ho) (by simp[Nm.bytes]) Hr.out
 go_wp2_with (first
  |(at_builtin;refine Aq rfl (.tmp 22) (.tmp 25) _ rfl w.heap.size 5 (.int .u8 0) 1 1 Tryz.underlying60 Bt rfl (by decide) _ 11 _ rfl (BF (hown3.alloc _) hsz) (w3.heap.size+1) _ 1 1 [B b4] rfl rfl (by have h:=Rd.one w3 (B b4) 5;rw[HB4.out]at h ⊢;exact h) (fun u hu=>GZ hu rfl) (by omega) (by unfold maxLen;omega) (by have:=hbw3.size;simp;omega) ?_;intro v4 w4 hown4 hg4 hat4;have hR4:=(hR3.alloc _).kept hg4 (CC (BF hown3 hsz) hR3 (by decide));have hbw4:=BL (hbw3.alloc hbw3.size _) (BF (hown3.alloc _) hsz) hg4;obtain⟨A4,c4,hv4⟩:=Ar hown4;subst hv4)
  |(go_at_call 50;refine(HT.out A4 c4 w4 hown4).mono ?_;rintro en w5 ⟨rfl,hb5⟩;have hR5:=hR4.below hb5 hR4.lt;have hbw5:=hbw4.trans (hb5.mono hbw4.size))
  |(refine AJ rfl 24 (.tmp 8) (.tmp 27) rfl w.heap.size _ rfl rfl 24 _ hR5 rfl Ap (fun u hu=>FA r hu) ?_))
 intro w6 hR6 hg6 hs6;have hbw6:Below w.heap.size w w6:=hbw5.grown hg6 hbw5.size (by rintro j ⟨⟩;omega);go_wp2;exact bodyPost_ret (results_cell_row (g:=w.heap.size) rfl _ _ _ _ _ _ rfl hR6 Tryz.underlying24 rfl Ap) rfl ⟨rfl,hbw6⟩
end
section
open Go.RowKit Go.Shelf
attribute [local go_sem ↓] Go.wp_at_zero Go.wp_at_succ An Au Av Aw DK
attribute [local go_sem] BD BH BI BJ EO AN AW AQ
abbrev Ca(M q s f:Int)(p:Nm)(A:Option Addr)(n c mo:Nat):Array Value:=#[.int .i64 M,I q,I s,I f,B p.b0,B p.b1,B p.b2,B p.b3,B p.b4,B p.b5,B p.b6,B p.b7,.slice A n c,.map (some mo)]
structure EU (w:World)(b:Nat)(M q s f:Int)(p:Nm)(A:Option Addr)(c mo:Nat)(O:List Vt)(ow:Int→Int→Bool):Prop where
 blk:Blk w b 229 (Ca M q s f p A O.length c mo)
 rd:Rd w w.heap.size A (O.flatMap vtc)
 own:∃kl,Bh DG w mo kl∧∀k r,∃z:Nat,(BR (k,r) kl).getD (.int .i64 0)= .int .i64 (z:Int)∧decide (0<z)=ow k r
section
variable {w w':World}{b:Nat}{M q s f:Int}{p:Nm}{A:Option Addr}{c mo:Nat}{O:List Vt}{ow:Int→Int→Bool}
theorem EU.below(h:EU w b M q s f p A c mo O ow)(hb:Below w.heap.size w w'):EU w' b M q s f p A c mo O ow:=
 ⟨h.blk.below hb h.blk.lt,(h.rd.below hb).more hb.size,by obtain⟨kl,h1,h2⟩:=h.own;exact⟨kl,h1.below hb h1.is.lt,h2⟩⟩
theorem EU.row_parent(h:EU w b M q s f p A c mo O ow):AK w b 4 8=some p.cells:=
 Blk.part h.blk 4 p.cells (fun j u hu=>by
  have hj:j<8:=(Aa.1 hu).1;rcases(by omega:j=0∨j=1∨j=2∨j=3∨j=4∨j=5∨j=6∨j=7)with rfl|rfl|rfl|rfl|rfl|rfl|rfl|rfl <;> exact hu)
theorem DN(h:EU w b M q s f p A c mo O ow)(k r:Int):Calls Tryz.prog 204 #[.pointer (some ⟨b,0,none⟩),.int .i64 k,.int .i64 r] w fun e w'=>e= .returned (.bool (ow k r))∧w'=w:=by
 obtain⟨kl,h1,h2⟩:=h.own;obtain⟨z,hz,hd⟩:=h2 k r;have y0:w.cell? ⟨b,13,none⟩=some (.map (some mo)):=h.blk.cell 13;have hr:=h1.is.look OU Tryz.underlying227 (.int .i64 0) (show(zeroValue 3).run Tryz.prog w= .ok (.int .i64 0) w by kernel_rfl) (k,r) false;simp only[Bool.false_eq_true,if_false]at hr;rw[hz]at hr;obtain⟨d,hd'⟩:∃d,d=ow k r:=⟨_,rfl⟩;rw[←hd']at hd ⊢;clear h h1 h2 hz hd';go_enter Tryz.func204,Tryz.ntmps204;go_wp2;go_ret;exact⟨rfl,rfl⟩
theorem LJ{o:Oper}{a:Act}(v:Vt)(x0 x1 x2 x3 x4 x5 x6 x7:Operand)(ho:o.op= .build 46 #[(0,x0),(1,x1),(2,x2),(3,x3),(4,x4),(5,x5),(6,x6),(7,x7)])(h0:a.eval x0=I v.kind)(h1:a.eval x1=I v.slot)(h2:a.eval x2=I v.round)(h3:a.eval x3=I v.choice)(h4:a.eval x4=I v.signer)(h5:a.eval x5=I v.support)(h6:a.eval x6= .agg v.parent.cells)(h7:a.eval x7= .agg v.value.cells)(w:World):(execOp a.eval o).run Tryz.prog w= .ok (.value v.val) w:=by
 unfold execOp;rw[ho];simp only[List.map_toArray,List.map_cons,List.map_nil,h0,h1,h2,h3,h4,h5,h6,h7];go_simp
theorem Ao:(Tryz.prog.info? 46).map (·.size)=some 22:=by kernel_rfl
theorem FX(h:EU w b M q s f p A c mo O ow)(k r:Int)(x:Vl)(sup:Int):Calls Tryz.prog 206 #[.pointer (some ⟨b,0,none⟩),.int .i64 k,.int .i64 r,x.val,.int .i64 sup] w fun e w'=>e= .returned (.tuple #[(Vt.mk k s r x.choice f sup p x.name).val,.bool true])∧Below w.heap.size w w':=by
 obtain⟨w1,hw1⟩:∃w1,w1=w.alloc (.cells x.cells 258):=⟨_,rfl⟩;obtain⟨w2,hw2⟩:∃w2,w2=w1.alloc (.cells Ah 46):=⟨_,rfl⟩;have hb1:Below w.heap.size w w1:=by rw[hw1];exact(AC _ _).alloc (AB _) _
 have hb2:Below w.heap.size w w2:=by rw[hw2];exact hb1.alloc hb1.size _
 have hx1:Blk w1 w.heap.size 258 x.cells:=by rw[hw1];exact Blk.new w _ _
 obtain⟨z,hz⟩:∃z,z=w.heap.size:=⟨_,rfl⟩;have hs1:w1.heap.size=w.heap.size+1:=by rw[hw1];simp
 obtain⟨g,hg⟩:∃g,g=w.heap.size+1:=⟨_,rfl⟩;have hx2:Blk w2 z 258 x.cells:=by rw[hw2,hz];exact hx1.alloc _
 have hr2:Blk w2 g 46 Ah:=by rw[hw2,hg,←hs1];exact Blk.new w1 _ _
 have hV2:=h.below hb2;have HS:Hid (∀V,Below w2.heap.size w2 V→V.cell? ⟨b,2,none⟩=some (I s)∧V.cell? ⟨b,3,none⟩=some (I f)∧AK V b 4 8=some p.cells∧V.cell? ⟨z,0,none⟩=some (I x.choice)∧AK V z 1 8=some x.name.cells):=fun V hV=>
  ⟨(hV2.below hV).blk.cell 2,(hV2.below hV).blk.cell 3,(hV2.below hV).row_parent,(hx2.below hV hx2.lt).cell 0,x.row_name (hx2.below hV hx2.lt)⟩
 have HS5:Hid (∀V,w2.grownBy V (some g)→V.cell? ⟨b,2,none⟩=some (I s)∧V.cell? ⟨b,3,none⟩=some (I f)∧AK V b 4 8=some p.cells∧V.cell? ⟨z,0,none⟩=some (I x.choice)∧AK V z 1 8=some x.name.cells):=fun V hV=>by
  have hbg:b≠g:=by intro e;rw[e]at hV2;exact absurd (Cd hV2.blk hr2) (by decide)
  have hzg:z≠g:=by intro e;rw[e]at hx2;exact absurd (Cd hx2 hr2) (by decide)
  have hb5:=hV2.blk.kept hV (by intro e;injection e with e;exact hbg e);have hx5:=hx2.kept hV (by intro e;injection e with e;exact hzg e);exact⟨hb5.cell 2,hb5.cell 3,Blk.part hb5 4 p.cells (fun j u hu=>by
   have hj:j<8:=(Aa.1 hu).1;rcases(by omega:j=0∨j=1∨j=2∨j=3∨j=4∨j=5∨j=6∨j=7)with rfl|rfl|rfl|rfl|rfl|rfl|rfl|rfl <;> exact hu),hx5.cell 0,x.row_name hx5⟩
 obtain⟨v,hv⟩:∃v:Vt,v=Vt.mk k s r x.choice f sup p x.name:=⟨_,rfl⟩;rw[←hv];have HV:=AA hv;have HR:=AA hr2;have HB:=AA hb2;have HW1:=AA hw1;have HW2:=AA hw2;have HZ:=AA hz;have HG:=AA hg;have HGW:Hid (w.heap.size≤g):=by unfold Hid;omega
 clear h hw1 hw2 hx1 hz hg hx2 hr2 hV2 hb1 hb2 hv hs1;go_enter Tryz.func206,Tryz.ntmps206;go_upto_region 1 with fail
 simp only[←HW1.out,←HW2.out,←HG.out];simp only[←HZ.out];refine rgD (fun V=>V.cell? ⟨b,2,none⟩=some (I s)∧V.cell? ⟨b,3,none⟩=some (I f)∧AK V b 4 8=some p.cells∧V.cell? ⟨z,0,none⟩=some (I x.choice)∧AK V z 1 8=some x.name.cells) (HS.out _ ((AC _ _).drew)) fun hHeld=>?_
 refine tkD 12 0 ?_;go_frame;refine tkD 13 1 ?_;go_frame;refine tkD 14 2 ?_;go_frame;refine tkD 15 3 ?_;go_frame;refine tkD 16 4 ?_;go_frame;refine tkD 17 5 ?_;go_frame;refine tkD 18 6 ?_;go_frame;refine tkD 19 7 ?_;go_frame;refine tkD 20 8 ?_;go_frame;refine tkD 21 9 ?_;go_frame;refine tkD 22 10 ?_;go_frame;refine tkD 23 11 ?_;go_frame;refine tkD 24 12 ?_;go_frame;refine tkD 25 13 ?_;go_frame;refine tkD 26 14 ?_;go_frame;refine tkD 27 15 ?_;go_frame;refine tkD 28 16 ?_;go_frame;refine tkD 29 17 ?_;go_frame;refine tkD 30 18 ?_;go_frame;refine Az (some 31) (i:=19) (v:=v.val) rfl rfl (by kernel_rfl) (by kernel_rfl) (by kernel_rfl) (fun _ _ _ h=>h) (by rfl) (fun wq _=>LJ v (.tmp 12) (.tmp 16) (.tmp 17) (.tmp 19) (.tmp 23) (.tmp 24) (.tmp 28) (.tmp 30) rfl (by rw[HV.out];rfl) (by rw[HV.out];rfl) (by rw[HV.out];rfl) (by rw[HV.out];rfl) (by rw[HV.out];rfl) (by rw[HV.out];rfl) (by rw[HV.out];rfl) (by rw[HV.out];rfl) wq) (by assumption) ?_;go_frame;refine rd1 20 fun K hK=>?_
 rw[if_pos (by rfl)];refine BQ 46 (.tmp 10) (.tmp 31) (by rfl) g v.cells (by rfl) (by rfl) 46 Ah (HR.out.drew) (by rfl) Ao (fun u hu=>BM _ hu) (by rfl) ?_;intro w5 hR5 hg5 hsz5;refine hK.out _ _ (HS5.out _ (BX (Ai w2 g)|>.trans hg5)) (fun hHeld=>?_);clear hK K;try go_frame
 refine tkD 11 21 ?_;go_frame;refine dnD ?_;go_wp2_with fail
 refine bodyPost_ret (Ab (g:=g) (cs:=v.cells) rfl _ _ _ _ _ rfl hR5 Tryz.underlying46 rfl Ao) rfl ⟨rfl,?_⟩;exact HB.out.drew.grown hg5 HB.out.size (fun k hk=>by injection hk with hk;subst hk;exact HGW.out)
theorem Is(h:EU w b M q s f p A c mo O ow)(X:Int):Calls Tryz.prog 214 #[.pointer (some ⟨b,0,none⟩),.int .i64 X] w fun e w'=>e= .returned (.bool (decide (q≤((At (xOf X) 10:Nat):Int))))∧Below w.heap.size w w':=by
 have HSz:Hid (∀W,Calls Tryz.prog 15 #[.int .i64 X] W fun e w'=>e= .returned (.int .i64 ((At (xOf X) 10:Nat):Int))∧w'=W):=fun W=>CU X W
 have HS:Hid (∀V,Below w.heap.size w V→V.cell? ⟨b,1,none⟩=some (I q)):=fun V hV=>(h.below hV).blk.cell 1
 obtain⟨n,hn⟩:∃n,n=At (xOf X) 10:=⟨_,rfl⟩;rw[←hn]at HSz ⊢;obtain⟨d,hd⟩:∃d,d=decide (q≤(n:Int)):=⟨_,rfl⟩;rw[←hd];have hd':=hd.symm;clear h hn hd;have hbx:Below w.heap.size w w:=AC _ _;go_enter Tryz.func214,Tryz.ntmps214;go_upto_region 1 with fail
 refine rgD (fun V=>V.cell? ⟨b,1,none⟩=some (I q)) (HS.out _ hbx.drew) fun hHeld=>?_
 refine tkD 5 0 ?_;go_frame;refine tkD 7 2 ?_;go_frame;refine tkD 8 3 ?_;go_frame;refine tkD 9 4 ?_;go_frame;refine tkD 10 5 ?_;go_frame;refine rd1 1 fun K hK=>?_
 go_simp;refine(HSz.out _).mono ?_;rintro en w2 ⟨rfl,hw2⟩;replace hw2:=hw2.symm;subst hw2;go_wp2_with fail
 refine hK.out _ _ (HS.out _ hbx.drew) (fun hHeld=>?_);clear hK K;try go_frame
 refine tkD 11 6 ?_;go_frame;refine tkD 4 7 ?_;go_frame;refine dnD ?_;go_wp2;go_ret;exact⟨rfl,hbx.drew⟩
end
end
section
open Go.RowKit
section
variable {α:Type}{c:Be α}{t:TypeId}{w0:World}{g n f F:Nat}{sb lb:Array Value}{lt:α→α→Bool}{l0:List α}
theorem KR(H:Srt c t w0 g n f F sb lb lt l0)(a b:Nat)(w:World)(hw:BC c t g l0 w0 w)(hab:a+1<b)(hb:b≤n):Calls Tryz.prog 229 #[.agg #[.func (.func F) #[] lb,.func (.func f) #[] sb],.int .i64 (a:Int),.int .i64 (b:Int)] w fun e w'=>e= .returned (.tuple #[])∧BC c t g l0 w w':=by
 obtain⟨L,rfl⟩:∃L,b=a+L:=⟨b-a,by omega⟩;have hL:(((a+L:Nat):Int)-(a:Int))=(L:Int):=by omega
 push_cast at hL
 have HH:=AA H;have hgw:g<w.heap.size:=hw.glt;obtain⟨B,hB⟩:∃B,B=w.alloc (.cells #[.func (.func F) #[] lb,.func (.func f) #[] sb] 190):=⟨_,rfl⟩;have h0B:BC c t g l0 w0 B:=by rw[hB];exact hw.alloc _
 have hBB:BC c t g l0 B B:=h0B.self;have hBx:Blk B w.heap.size 190 #[.func (.func F) #[] lb,.func (.func f) #[] sb]:=by rw[hB];exact Blk.new _ _ _
 have HOff:Hid (∀V,BC c t g l0 B V→BC c t g l0 w V):=fun V h=>by rw[hB]at h;exact h.off
 have HB0:=AA h0B;have HC:Hid (∀V,BC c t g l0 B V→V.cell? ⟨w.heap.size,0,none⟩=some (.func (.func F) #[] lb)∧V.cell? ⟨w.heap.size,1,none⟩=some (.func (.func f) #[] sb)):=fun V h=>⟨(h.box hBx (by omega)).cell 0,(h.box hBx (by omega)).cell 1⟩
 have eg:=H.eg;have hn6:=H.small;have HW:=AA hB;have HBB:=AA hBB;clear hw hB h0B hBB hBx H;go_enter Tryz.func229,Tryz.ntmps229;go_upto_region 1 with fail
 simp only[←HW.out]
 push_cast
 go_upto_region 5 with fail
 go_loopw [9] (fun iv wr=>∃z:Int,iv= .int .i64 z∧-1≤z∧z<n∧Hid (BC c t g l0 B wr)) (fun iv _=>(intOf iv+1).toNat)
 case atStart=>exact⟨_,rfl,by omega,by omega,HBB⟩
 case round=>
  obtain⟨z,rfl,hz,hzn,HP⟩:=hrel;obtain⟨c0,c1⟩:=HC.out _ HP.out;by_cases h1:0≤z
  ·have d1:decide (0≤z)=true:=by simp;omega
   obtain⟨m,rfl⟩:∃m:Nat,z=(m:Int):=⟨z.toNat,by omega⟩;go_wp2_with (go_at_call 267;refine(Gm HH.out m L a _ (HB0.out.trans HP.out) (by omega) (by omega)).mono ?_;rintro en w5 ⟨rfl,hp⟩;have HP5:=AA (HP.out.trans hp);obtain⟨c0,c1⟩:=HC.out _ (HP.out.trans hp);clear hp)
   go_roundw
   case rel=>exact⟨_,rfl,by omega,by omega,HP5⟩
   case measure=>simp[intOf]
  ·have d1:decide (0≤z)=false:=by simp;omega
   go_wp2
   go_loopw [10] (fun iv wr=>∃z:Int,iv= .int .i64 z∧-1≤z∧z<(L:Int)∧Hid (BC c t g l0 B wr)) (fun iv _=>(intOf iv+1).toNat)
   case atStart=>exact⟨_,rfl,by omega,by omega,HP⟩
   case round=>
    obtain⟨y,rfl,hy,hyn,HP⟩:=hrel;obtain⟨c0,c1⟩:=HC.out _ HP.out;by_cases h2:0≤y
    ·have d2:decide (0≤y)=true:=by simp;omega
     obtain⟨m,rfl⟩:∃m:Nat,y=(m:Int):=⟨y.toNat,by omega⟩;obtain⟨w6,hrun,hp⟩:=HH.out.swap HB0.out HP.out (a) (a+m) (by omega) (by omega) (by omega);try push_cast at hrun
     have HP6:=AA hp;obtain⟨c0',c1'⟩:=HC.out _ hp;clear hp;go_wp2_with (go_at_call 267;refine(Gm HH.out 0 m a _ (HB0.out.trans HP6.out) (by omega) (by omega)).mono ?_;rintro en w7 ⟨rfl,hp⟩;have HP7:=AA (HP6.out.trans hp);obtain⟨c0,c1⟩:=HC.out _ (HP6.out.trans hp);clear hp)
     go_roundw
     case rel=>exact⟨_,rfl,by omega,by omega,HP7⟩
     case measure=>simp[intOf]
    ·have d2:decide (0≤y)=false:=by simp;omega
     go_wp2
     first
      |go_end0
      |refine bodyPost_ret (results_none rfl _ _ _) rfl ?_
     exact⟨rfl,HOff.out _ HP.out⟩
theorem EV(H:Srt c t w0 g n f F sb lb lt l0)(a b:Nat)(w:World)(hw:BC c t g l0 w0 w)(hab:a<b)(hb:b≤n):Calls Tryz.prog 232 #[.agg #[.func (.func F) #[] lb,.func (.func f) #[] sb],.int .i64 (a:Int),.int .i64 (b:Int)] w fun e w'=>e= .returned (.tuple #[])∧BC c t g l0 w w':=by
 have HH:=AA H;have hgw:g<w.heap.size:=hw.glt;obtain⟨B,hB⟩:∃B,B=w.alloc (.cells #[.func (.func F) #[] lb,.func (.func f) #[] sb] 190):=⟨_,rfl⟩;have h0B:BC c t g l0 w0 B:=by rw[hB];exact hw.alloc _
 have hBB:BC c t g l0 B B:=h0B.self;have hBx:Blk B w.heap.size 190 #[.func (.func F) #[] lb,.func (.func f) #[] sb]:=by rw[hB];exact Blk.new _ _ _
 have HOff:Hid (∀V,BC c t g l0 B V→BC c t g l0 w V):=fun V h=>by rw[hB]at h;exact h.off
 have HB0:=AA h0B;have HC:Hid (∀V,BC c t g l0 B V→V.cell? ⟨w.heap.size,0,none⟩=some (.func (.func F) #[] lb)∧V.cell? ⟨w.heap.size,1,none⟩=some (.func (.func f) #[] sb)):=fun V h=>⟨(h.box hBx (by omega)).cell 0,(h.box hBx (by omega)).cell 1⟩
 have eg:=H.eg;have hn6:=H.small;have HW:=AA hB;have HBB:=AA hBB;clear hw hB h0B hBB hBx H;go_enter Tryz.func232,Tryz.ntmps232;go_upto_region 1 with fail
 simp only[←HW.out];go_upto_region 3 with fail
 go_loopw [6,7] (fun iv jv wr=>∃i j:Nat,iv= .int .i64 (i:Int)∧jv= .int .i64 (j:Int)∧i≤n∧j<n∧Hid (BC c t g l0 B wr)) (fun _ jv _=>(intOf jv).toNat)
 case atStart=>exact⟨a,b-1,rfl,by go_num,by omega,by omega,HBB⟩
 case round=>
  obtain⟨i,j,rfl,rfl,hi,hj,HP⟩:=hrel;obtain⟨c0,c1⟩:=HC.out _ HP.out;by_cases h1:i<j
  ·have d1:decide ((i:Int)<(j:Int))=true:=by simp;omega
   obtain⟨w5,hrun,hp⟩:=HH.out.swap HB0.out HP.out (i) (j) (by omega) (by omega) (by omega);try push_cast at hrun
   have HP5:=AA hp;obtain⟨c0',c1'⟩:=HC.out _ hp;clear hp;go_wp2;go_roundw
   case rel=>exact⟨i+1,j-1,by go_num,by go_num,by omega,by omega,HP5⟩
   case measure=>simp[intOf];omega
  ·have d1:decide ((i:Int)<(j:Int))=false:=by simp;omega
   go_wp2
   first
    |go_end0
    |refine bodyPost_ret (results_none rfl _ _ _) rfl ?_
   exact⟨rfl,HOff.out _ HP.out⟩
theorem LK(H:Srt c t w0 g n f F sb lb lt l0)(a b:Nat)(w:World)(hw:BC c t g l0 w0 w)(hab:a≤b)(hb:b≤n):Calls Tryz.prog 179 #[.agg #[.func (.func F) #[] lb,.func (.func f) #[] sb],.int .i64 (a:Int),.int .i64 (b:Int)] w fun e w'=>e= .returned (.tuple #[])∧BC c t g l0 w w':=by
 have HH:=AA H;have hgw:g<w.heap.size:=hw.glt;obtain⟨B,hB⟩:∃B,B=w.alloc (.cells #[.func (.func F) #[] lb,.func (.func f) #[] sb] 190):=⟨_,rfl⟩;have h0B:BC c t g l0 w0 B:=by rw[hB];exact hw.alloc _
 have hBB:BC c t g l0 B B:=h0B.self;have hBx:Blk B w.heap.size 190 #[.func (.func F) #[] lb,.func (.func f) #[] sb]:=by rw[hB];exact Blk.new _ _ _
 have HOff:Hid (∀V,BC c t g l0 B V→BC c t g l0 w V):=fun V h=>by rw[hB]at h;exact h.off
 have HB0:=AA h0B;have HC:Hid (∀V,BC c t g l0 B V→V.cell? ⟨w.heap.size,0,none⟩=some (.func (.func F) #[] lb)∧V.cell? ⟨w.heap.size,1,none⟩=some (.func (.func f) #[] sb)):=fun V h=>⟨(h.box hBx (by omega)).cell 0,(h.box hBx (by omega)).cell 1⟩
 have eg:=H.eg;have hn6:=H.small;have HW:=AA hB;have HBB:=AA hBB;clear hw hB h0B hBB hBx H;go_enter Tryz.func179,Tryz.ntmps179;go_upto_region 1 with fail
 simp only[←HW.out];go_wp2
 go_loopw [6] (fun iv wr=>∃i:Nat,iv= .int .i64 (i:Int)∧i≤n+1∧Hid (BC c t g l0 B wr)) (fun iv _=>n+1-(intOf iv).toNat)
 case atStart=>exact⟨a+1,by go_num,by omega,HBB⟩
 case round=>
  obtain⟨i,rfl,hi,HP⟩:=hrel;by_cases h1:i<b
  ·have d1:decide ((i:Int)<(b:Int))=true:=by simp;omega
   go_wp2
   go_loopw [7] (fun jv wr=>∃j:Nat,jv= .int .i64 (j:Int)∧j≤i∧Hid (BC c t g l0 B wr)) (fun jv _=>(intOf jv).toNat)
   case atStart=>exact⟨i,rfl,by omega,HP⟩
   case round=>
    obtain⟨j,rfl,hj,HP⟩:=hrel;obtain⟨c0,c1⟩:=HC.out _ HP.out;by_cases h2:a<j
    ·have d2:decide ((a:Int)<(j:Int))=true:=by simp;omega
     go_wp2_with fail
     have hl:=HH.out.less HB0.out HP.out (j) (j-1) (by omega) (by omega);try push_cast at hl
     rw[show((j-1:Nat):Int)=(j:Int)-1 from by omega]at hl;refine hl.mono ?_;clear hl;rintro en w5 ⟨k5,rfl,hp⟩;have HP5:=AA hp;obtain⟨c0,c1⟩:=HC.out _ hp;clear hp;cases k5 with
     |true=>
      obtain⟨w6,hrun,hp⟩:=HH.out.swap HB0.out HP5.out (j) (j-1) (by omega) (by omega) (by omega);try push_cast at hrun
      rw[show((j-1:Nat):Int)=(j:Int)-1 from by omega]at hrun;have HP6:=AA hp;obtain⟨c0',c1'⟩:=HC.out _ hp;clear hp;go_wp2;go_roundw
      case rel=>exact⟨j-1,by go_num,by omega,HP6⟩
      case measure=>simp[intOf];omega
     |false=>
      go_wp2;go_roundw
      case rel=>exact⟨i+1,by go_num,by omega,HP5⟩
      case measure=>simp[intOf];omega
    ·have d2:decide ((a:Int)<(j:Int))=false:=by simp;omega
     go_wp2;go_roundw
     case rel=>exact⟨i+1,by go_num,by omega,HP⟩
     case measure=>simp[intOf];omega
  ·have d1:decide ((i:Int)<(b:Int))=false:=by simp;omega
   go_wp2
   first
    |go_end0
    |refine bodyPost_ret (results_none rfl _ _ _) rfl ?_
   exact⟨rfl,HOff.out _ HP.out⟩
end
end
end Go.Proofs.YtadllffeoibelaaGreat
