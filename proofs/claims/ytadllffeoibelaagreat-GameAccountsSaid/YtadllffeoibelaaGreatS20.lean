/-
  Parts of the proof. No condition.
-/
import Derived.Test.YtadllffeoibelaaGreatS19
open Go.Proofs.Tryz
namespace Go.Proofs.YtadllffeoibelaaGreat
set_option maxRecDepth 100000
set_option maxHeartbeats 32000000
set_option linter.all false
section
open Go.RowKit
attribute [local go_sem ↓] Go.wp_at_zero Go.wp_at_succ Aj
attribute [local go_sem] Ax AK AR AN
structure KFr (base m:Nat)(w w':World):Prop where
 os:w'.os=w.os
 tape:w'.tape=w.tape
 output:w'.output=w.output
 size:w.heap.size<=w'.heap.size
 block:∀i,i<base->i≠m->w'.heap[i]? =w.heap[i]?
theorem KFr.trans{base m:Nat}{w w1 w2:World}(h:KFr base m w w1)(h':KFr base m w1 w2):KFr base m w w2:=
 ⟨h'.os.trans h.os,h'.tape.trans h.tape,h'.output.trans h.output,AG h.size h'.size,fun i hi hm=>(h'.block i hi hm).trans (h.block i hi hm)⟩
theorem KFr.grown{base m:Nat}{w w':World}(h:w.grownBy w' (some m))(hb:base<=w.heap.size):KFr base m w w':=
 ⟨h.os,h.tape,h.output,h.size,fun i hi hm=>h.block i (Nat.lt_of_lt_of_le hi hb) (by simpa using hm)⟩
theorem KFr.below{base m B':Nat}{w w':World}(h:Below B' w w')(hb:base<=B'):KFr base m w w':=
 ⟨h.os,h.tape,h.output,h.size,fun i hi _=>h.block i (Nat.lt_of_lt_of_le hi hb)⟩
theorem KFr.own{base m e size n:Nat}{w w':World}{v:Value}{xs:List Value}(h:w.ownsRow base e size v n xs)(hg:w.grownBy w' v.ownBlock)(hb:base<=w.heap.size):KFr base m w w':=
 ⟨hg.os,hg.tape,hg.output,hg.size,fun i hi _=>hg.block i (Nat.lt_of_lt_of_le hi hb) (fun e=>by have:=(h.lt _ e.symm).1;omega)⟩
theorem KFr.all{m:Nat}{w w':World}(h:KFr w.heap.size m w w'):w.grownBy w' (some m):=
 ⟨h.os,h.tape,h.output,h.size,fun i hi hm=>h.block i hi (fun e=>hm (by rw[e]))⟩
theorem Qn{s:Nm}{h m base e size n:Nat}{w:World}{v:Value}{xs:List Value}(hk:Bg s h m w)(ho:w.ownsRow base e size v n xs):v.ownBlock≠some m:=by
 rcases ho.2 with⟨rfl,_⟩|⟨g,cap,cur,rfl,_,hh,_⟩
 ·intro e;cases e
 ·intro he;have he':g=m:=by simpa[Value.ownBlock]using he
  subst he';obtain⟨_,_,tl,⟨es,c,h5,_⟩,_⟩:=hk;rw[hh]at h5;cases h5
def Kj(s:Nm)(h m base n:Nat)(xs:List Value)(p:List UInt8)(w:World)(e:Ending)(w':World):Prop:=
 ∃A c,e= .returned (.slice A (n+184) c)/\w'.ownsRow base 5 1 (.slice A (n+184) c) (n+184) (xs++p.map B)/\Bg s h m w'/\KFr base m w w'
theorem Jk(s nm:Nm)(h m level number j base n c0:Nat)(A0:Option Addr)(xs:List Value)(w:World)(hk:Bg s h m w)(xA:w.ownsRow base 5 1 (.slice A0 n c0) n xs)(yT:base<=w.heap.size)(hl:level<=2)(hn:number<32)(hj:j<32)(hn0:n<=1000):Calls prog 164 #[.pointer (some ⟨h,0,none⟩),.slice A0 n c0,.int .i64 (level:Int),.int .i64 (number:Int),.int .i64 (j:Int),nm.val] w (Kj s h m base n xs (EC s level number j nm) w):=by
 obtain⟨i0,hi,hz0,hz1,hz2⟩:=info_parts DB;obtain⟨W,hW⟩:=ZH (w.alloc (Obj.cells nm.cells 24));have hbW:ZN w W:=by rw[hW];exact(AC _ _).alloc (AB _) _
 have hkW:=hk.below hbW;have hX:Blk W w.heap.size 24 nm.cells:=by rw[hW];exact Blk.new w _ _
 have hDM:=Ay xA hbW (AB _);have HT:=AA (Nv s h m level number W hkW hl hn);have HOM:=AA (Qn hkW hDM);have hml:m<w.heap.size:=by obtain⟨_,_,tl,hM,_⟩:=hk;exact hM.lt
 have hne:w.heap.size≠m:=by omega
 have HPa:Hid (∀V g,BK V g 32 (CZ s level number)->Calls prog 219 #[Eo g,.int .i64 (j:Int)] V (Ow V 5 (EI 5 j (CZ s level number)))):=fun V g hN=>U0 j _ g 0 32 V (Gu _ _ _) (by omega) (by unfold maxLen;omega) hj hN.rd
 obtain⟨x,hx⟩:=ZI (Jw s level number j);have HSd:Hid (∀V,Bg s h m V->Calls prog 140 #[.pointer (some ⟨h,0,none⟩),.int .i64 (level:Int),.int .i64 (number:Int),.int .i64 (j:Int)] V (BM V x)):=fun V hV=>Le s x h m level number j V hV.1 hl hn hj hx
 obtain⟨os,hos⟩:=ZH (En x nm);have HOs:Hid (∀V,Calls prog 220 #[x.val,nm.val] V (FZ V 18 os)):=fun V=>by rw[hos];exact Se x nm V
 have HOl:Hid (os.length=18):=by rw[hos];exact F5 x nm
 obtain⟨pa,hpa⟩:=ZH (EI 5 j (CZ s level number));have HPl:Hid (pa.length=5):=by rw[hpa];exact CS 5 j _
 rw[<-hpa]at HPa;have hEb:EC s level number j nm=(os++pa).flatMap Nm.bytes:=by rw[EC,hx,hos,hpa]
 obtain⟨nl,hnl⟩:=ZH (os++pa);rw[hEb,<-hnl];have HNq:=AA hnl;clear hEb hpa hos hx hk xA hkW hnl;obtain⟨q,hq⟩:=ZH w.heap.size;rw[<-hq]at hX hne;have hKF:KFr base m w W:=KFr.below hbW yT;have hbq:base<=q:=by omega
 have hEB:base<=W.heap.size:=AG yT hbW.size;go_enter func164,ntmps164;go_upto_region 1 with fail
 rw[<-hW,<-hq];clear hW hq yT hbW;go_upto_region 2 with(first
  |(go_at_call 92;refine HT.out.mono ?_;rintro en w3 ⟨g,rfl,hN3,hk3,hg3⟩;have hX3:=hX.kept hg3 (by simpa using hne);have xD:=hDM.kept hg3 (.inr HOM.out);have hF3:=hKF.trans (KFr.grown hg3 hEB))
  |(go_at_call 219;refine(HPa.out _ _ hN3).mono ?_;rintro en w4 ⟨A4,c4,rfl,hEc,hb4⟩;have hX4:=hX3.below hb4 hX3.lt;have xZ:=Ay xD hb4 (AB _);have hk4:=hk3.below hb4;have hF4:=hF3.trans (KFr.below hb4 (AG hEB hg3.size))))
 have hs4:base<=w4.heap.size:=AG hEB (AG hg3.size hb4.size);clear hN3 hk3 hg3 hX3 xD hF3 hb4 hDM hX hKF HT HPa hml hEB;try go_frame
 have HP4:Hid (Rd w4 w4.heap.size A4 (pa.flatMap nmc)):=Rd.of_own hEc;clear hEc;obtain⟨b4,o4,rfl,_⟩:=KL HP4.out (by rw[HPl.out];omega);have x4:AJ w4 q 0 8=some nm.cells:=hX4.row 8 rfl;have HX4:=AA hX4;have HK4:=AA hk4;have HO4:=AA xZ;clear hX4 hk4 xZ;have hb0:ZN w4 w4:=AC _ _;refine rgD (fun w'=>AJ w' q 0 8=some nm.cells) (x4) fun _=>?_
 iterate 4 (refine tkA ?_;go_frame)
 refine tkD 31 5 ?_;go_frame;refine tkD 33 7 ?_;go_frame;refine tkD 36 10 ?_;go_frame;refine rd1 4 fun K hK=>?_
 go_simp;refine(HSd.out _ HK4.out.drew).mono ?_;rintro en w5 ⟨rfl,hb5⟩;have xX:=hb0.drew.trans (hb5.mono (AB _));go_wp2_with fail
 refine hK.out _ _ (BH x4 xX HX4.out.lt) (fun _=>?_);clear hK K;try go_frame
 refine rd1 6 fun K hK=>?_
 go_simp;refine(HOs.out _).mono ?_;rintro en w6 ⟨g6,rfl,hN6,hb6⟩;have yA:=xX.trans (hb6.mono xX.size);go_wp2_with fail
 refine hK.out _ _ (BH x4 yA HX4.out.lt) (fun _=>?_);clear hK K;try go_frame
 refine rd1 8 fun K hK=>?_
 rw[if_pos (by rfl)];refine Dg _ (some 34) rfl (.tmp 32) (.tmp 33) _ (by rfl) 24 i0 (Nm.val ⟨0,0,0,0,0,0,0,0⟩) 8 8 underlying75 hi hz0 hz1 hz2 rfl (by decide) (some ⟨g6,0,none⟩) 18 18 (os.flatMap nmc) (by rfl) (fun e=>by cases e) (by rw[AY nmc 8 os (Cb os),HOl.out]) ?ah ⟨b4,o4,none⟩ 5 c4 (pa.flatMap nmc) (by rfl) (by rw[AY nmc 8 pa (Cb pa),HPl.out]) ?ac (fun u hu=>Fa hu) (by omega) (by unfold maxLen;omega) (by omega) ?_
 case ah=>
  intro p hp j u hu;injection hp with hp;subst hp
  rcases(hN6).rd with h0|⟨b',o',e,_,hc⟩
  ·rw[h0]at hu;simp at hu
  ·injection e with e;injection e with e1 e2;subst e1;subst e2
   rw[Addr.add_mid];exact hc j u hu
 case ac=>
  intro j u hu;rcases HP4.out.below yA with h0|⟨b',o',e,_,hc⟩
  ·rw[h0]at hu;simp at hu
  ·injection e with e;injection e with e1 e2;subst e1;subst e2
   rw[Addr.add_mid];exact hc j u hu
 intro v7 w7 xL hg7;obtain⟨A7,c7,hv7⟩:=Av xL;subst hv7;have xb:ZN w4 w7:=Dr yA hg7;refine hK.out _ _ (BH x4 xb HX4.out.lt) (fun _=>?_);clear hK K;try go_frame
 refine tkD 35 9 ?_;go_frame;refine dnD ?_;have HK7:=AA (HK4.out.below xb);have hAs:=Ay HO4.out xb (AB _);have hF7:=hF4.trans (KFr.below (m:=m) xb hs4);have hs7:base<=w7.heap.size:=AG hs4 xb.size;rw[<-Af,<-HNq.out]at xL;have HNl:Hid (nl.length=23):=by show nl.length=23;rw[HNq.out,AF,HOl.out,HPl.out]
 obtain⟨b7,o7,rfl,hb7lt⟩:=KL (Rd.of_own xL) (by rw[HNl.out];omega);obtain⟨cur,xC⟩:=WS xL;have HCu:Hid (∀k x,nl[k]? =some x->∀V,Blk V b7 24 cur->AJ V b7 (o7+k*8) 8=some x.cells):=fun k x hkx V hV=>by
  refine Bq (fun j u hu=>?_) rfl;have h1:=Rd.name (Rd.of_own xL) hkx;obtain⟨b',o',e,_,hc⟩:=h1;injection e with e;injection e with e1 e2;subst e1;subst e2
  have h2:=hc j u (by simpa using hu);rw[xC.cell]at h2;rw[hV.cell];exact h2
 clear HNq xL hg7 hN6 xb yA xX hb5 hb6 x4 HX4 HK4 HO4 HSd HOs HP4 hF4 hs4 hb0 HOl HPl;try go_frame
 go_wp2_with fail
 go_loopw [1,36] (fun v i wr=>∃k:Nat,k<=23/\i= .int .i64 k/\wr.ownsRow base 5 1 v (n+8*k) (xs++((nl.take k).flatMap Nm.bytes).map B)/\Blk wr b7 24 cur/\Bg s h m wr/\KFr base m w wr/\base<=wr.heap.size)
  (fun _ i _=>23-(intOf i).toNat)
 case atStart=>exact⟨0,by omega,rfl,by simpa using hAs,xC,HK7.out,hF7,hs7⟩
 case round=>
  clear hAs xC hF7 hs7 HK7;obtain⟨k,hk,rfl,xA,hC,hkk,hF,hs⟩:=hrel;by_cases hlt:k<23
  ·obtain⟨y,hy⟩:∃y,nl[k]? =some y:=⟨_,AD (by rw[HNl.out];exact hlt)⟩;have e1:=RB nl k y hy;have E1:=AA e1;clear e1;have xk:AJ wr b7 (o7+k*8) 8=some y.cells:=HCu.out k y hy wr hC;have ltC:=hC.lt;have HKk:=AA hkk;clear hkk hy;generalize List.flatMap Nm.bytes (nl.take k)=bs at*;have i1:(0:Int)<=(k:Int):=by omega
   have i2:(k:Int)<23:=by omega
   go_wp2_with (refine AI rfl 24 (.tmp 16) (.tmp 39) rfl wr.heap.size _ rfl rfl 24 _ (Blk.new wr _ _) rfl Ag (fun u hu=>F6 y hu) ?_)
   intro w2 hV2 hg2 hs2;have xG:=(xA.alloc _).kept hg2 (RC xA);have hC2:=(hC.alloc _).kept hg2 (by simp;omega);have hb2:ZN wr w2:=((AC _ _).alloc (AB _) _).grown hg2 (by simp) (by rintro j ⟨⟩;exact AB _);have HK2:=AA (HKk.out.below hb2);have hF2:=hF.trans (KFr.below (m:=m) hb2 hs);have hEC:base<=w2.heap.size:=AG hs hb2.size;clear xA hC xk hb2 hF hs hg2 hs2 HKk;go_wp2_with (at_builtin;refine Ar rfl (.tmp 40) (.tmp 41) _ rfl base 5 (.int .u8 0) 1 1 underlying60 Bf rfl (by decide) _ (n+8*k) _ rfl xG w2.heap.size _ 8 8 (y.bytes.map B) rfl rfl ?r1 ?r2 ?r3 ?r4 ?r5 ?_)
   case r1=>
    have h:=Rd.of_blk hV2 0 8;simpa[Nm.bytes]using h
   case r2=>exact fun u hu=>Ba hu
   case r3=>omega
   case r4=>unfold maxLen;omega
   case r5=>exact hEC
   intro v3 w3 xD hg3 yb;have hC3:=hC2.kept hg3 (CJ xG hC2 (by decide));have HK3:=AA (HK2.out.own xG hg3);have hF3:=hF2.trans (KFr.own (m:=m) xG hg3 hEC);have hs3:base<=w3.heap.size:=AG hEC hg3.size;clear xG hC2 hV2 hg3 yb HK2 hF2 hEC;go_wp2;go_roundw
   case rel=>exact⟨_,_,_,_,_,_,_,_,_,_,⟨k+1,by omega,by go_num,by rw[E1.out,Ae,show n+8*(k+1)=n+8*k+8 from by omega];exact xD,hC3,HK3.out,hF3,hs3⟩,rfl⟩
   case measure=>simp[intOf];omega
  ·obtain rfl:k=23:=by omega
   rw[AT (by rw[HNl.out];omega)]at xA;obtain⟨A8,c8,rfl⟩:=Av xA;go_wp2;go_ret;exact⟨A8,c8,rfl,xA,hkk,hF⟩
def Mk(s:Nm)(h m leaf:Nat)(nm:Nm)(w:World)(e:Ending)(w':World):Prop:=
 ∃A c,e= .returned (.tuple #[.slice A 370 c,.bool true])/\w'.ownsRow w.heap.size 5 1 (.slice A 370 c) 370 ((Dj s leaf nm).map B)/\Bg s h m w'/\w.grownBy w' (some m)
theorem N0{s:Nm}{h m:Nat}{w:World}(hk:Bg s h m w):m<w.heap.size:=by obtain⟨_,_,tl,hM,_⟩:=hk;exact hM.lt
theorem Rp(s nm:Nm)(h m leaf:Nat)(w:World)(hk:Bg s h m w)(hlf:leaf<1024):Calls prog 112 #[.pointer (some ⟨h,0,none⟩),.int .i64 (leaf:Int),nm.val] w (Mk s h m leaf nm w):=by
 obtain⟨W,hW⟩:=ZH (w.alloc (Obj.cells nm.cells 24));have hbW:ZN w W:=by rw[hW];exact(AC _ _).alloc (AB _) _
 have hkW:=hk.below hbW;have hX:Blk W w.heap.size 24 nm.cells:=by rw[hW];exact Blk.new w _ _
 have c8:W.cell? ⟨h,8,none⟩=some (I 2):=hkW.1.cell 8;have hED:=AA (JX s h m W hkW.1);obtain⟨b0,hb0⟩:=ZH (BZ leaf 1);obtain⟨b1,hb1⟩:=ZH (BZ leaf 0);have HA:Hid (Calls prog 80 #[.slice none 0 0,.int .u64 (leaf:Int),.int .i64 2] W (Ca W 5 1 2 ([b0,b1].map B))):=by
  have h:=KO none 0 0 leaf [] W rfl Rd.nil (fun u hu=>by cases hu) (by omega);rw[hb0,hb1];exact h
 obtain⟨rt,hrt⟩:=ZH (DY 5 (CZ s 1 (leaf/32)));obtain⟨p1,hp1⟩:=ZH (EC s 1 (leaf/32) (leaf%32) nm);obtain⟨p2,hp2⟩:=ZH (EC s 2 0 (leaf/32) rt);have hAB:Dj s leaf nm=[b0,b1]++p1++p2:=by
  rw[Dj,hp2,hrt,hp1,hb0,hb1];simp only[BZ,Nat.pow_one,Nat.pow_zero,Nat.div_one]
 obtain⟨sg,hsg⟩:=ZH (Dj s leaf nm);have HSg:Hid (sg=[b0,b1]++p1++p2):=by unfold Hid;rw[hsg,hAB]
 have H1:Hid (∀A c V,Bg s h m V->V.ownsRow w.heap.size 5 1 (.slice A 2 c) 2 ([b0,b1].map B)->w.heap.size<=V.heap.size->Calls prog 164 #[.pointer (some ⟨h,0,none⟩),.slice A 2 c,.int .i64 1,.int .i64 ((leaf:Int)/32),.int .i64 ((leaf:Int)%32),nm.val] V (Kj s h m w.heap.size 2 ([b0,b1].map B) p1 V)):=fun A c V hV ho hs=>by
  rw[hp1];exact Jk s nm h m 1 (leaf/32) (leaf%32) w.heap.size 2 c A _ V hV ho hs (by omega) (by omega) (Nat.mod_lt _ (by omega)) (by omega)
 have H2:Hid (∀A c V,Bg s h m V->V.ownsRow w.heap.size 5 1 (.slice A 186 c) 186 ([b0,b1].map B++p1.map B)->w.heap.size<=V.heap.size->Calls prog 164 #[.pointer (some ⟨h,0,none⟩),.slice A 186 c,.int .i64 2,.int .i64 0,.int .i64 ((leaf:Int)/32),rt.val] V (Kj s h m w.heap.size 186 ([b0,b1].map B++p1.map B) p2 V)):=fun A c V hV ho hs=>by
  rw[hp2];exact Jk s rt h m 2 0 (leaf/32) w.heap.size 186 c A _ V hV ho hs (by omega) (by omega) (by omega) (by omega)
 have HTr:Hid (∀V,Bg s h m V->Calls prog 92 #[.pointer (some ⟨h,0,none⟩),.int .i64 1,.int .i64 ((leaf:Int)/32)] V (Nu s h m 1 (leaf/32) V)):=fun V hV=>Nv s h m 1 (leaf/32) V hV (by omega) (by omega)
 have HRt:Hid (∀V g,BK V g 32 (CZ s 1 (leaf/32))->Calls prog 91 #[Eo g] V (BM V rt)):=fun V g hN=>by
  rw[hrt];exact EX 5 (CZ s 1 (leaf/32)) _ 32 32 V (Gu _ _ _) rfl (by omega) (by omega) (by unfold maxLen;omega) hN.rd
 have d0:decide ((leaf:Int)<0)=false:=by simp
 have d1:decide ((1024:Int)<=(leaf:Int))=false:=by simp;omega
 have hml:=N0 hk;have HK:=AA hkW;have HBW:=AA hbW;have HX:=AA hX;unfold Mk;rw[<-hsg];clear hAB hsg hp1 hp2 hrt hb0 hb1 hk hkW hbW hX;obtain⟨q,hq⟩:=ZH w.heap.size;rw[<-hq]at HX;have HQ:Hid (q=w.heap.size):=hq;go_enter func112,ntmps112;go_upto_region 1 with fail
 rw[<-hW,<-hq];clear hW hq;go_upto_region 3 with(first
  |(go_at_call 90;refine hED.out.mono ?_;rintro en w2 ⟨rfl,hw2⟩;subst hw2)
  |(go_at_call 78;refine(Ei _).mono ?_;rintro en w3 ⟨rfl,hw3⟩;subst hw3))
 try go_frame
 go_upto_region 4 with(go_at_call 80;refine HA.out.mono ?_;rintro en w4 ⟨A4,c4,rfl,xZ,hb4⟩)
 have x4:AJ w4 q 0 8=some nm.cells:=(HX.out.below hb4 HX.out.lt).row 8 rfl;have HK4:=AA (HK.out.below hb4);have HO4:=AA (BE xZ HBW.out.size);have HB4:=AA (HBW.out.trans (hb4.mono HBW.out.size));clear xZ hb4 HX HA hED HK;try go_frame
 go_upto_region 5 with(go_at_call 164;refine(H1.out _ _ _ HK4.out HO4.out HB4.out.size).mono ?_;rintro en w5 ⟨A5,c5,rfl,xW,hk5,hf5⟩)
 have c85:w5.cell? ⟨h,8,none⟩=some (I 2):=hk5.1.cell 8;have HK5:=AA hk5;have HO5:=AA xW;have HF5:=AA ((KFr.below (m:=m) HB4.out (AB _)).trans hf5);clear xW hk5 hf5 x4 HK4 HO4 HB4 H1;try go_frame
 go_upto_region 7 with(first
  |(go_at_call 92;refine(HTr.out _ HK5.out).mono ?_;rintro en w6 ⟨g,rfl,hN6,hk6,hg6⟩)
  |(go_at_call 91;refine(HRt.out _ _ hN6).mono ?_;rintro en w7 ⟨rfl,hb7⟩;have hk7:=hk6.below hb7;have xL:=Ay (HO5.out.kept hg6 (.inr (Qn HK5.out HO5.out))) hb7 (AB _);have hs5:=HF5.out.size;have hF7:=HF5.out.trans ((KFr.grown hg6 hs5).trans (KFr.below (m:=m) hb7 (AG hs5 hg6.size))))
  |(go_at_call 164;refine(H2.out _ _ _ hk7 xL hF7.size).mono ?_;rintro en w8 ⟨A8,c8,rfl,xf,hk8,hf8⟩))
 try go_frame
 go_wp2;go_ret2;rw[HQ.out];exact⟨A8,c8,rfl,by rw[HSg.out,Ae,Ae];exact xf,hk8,(hF7.trans hf8).all⟩
theorem NH.at{s:Nm}{w w':World}{e:Ending}(h:NH w s e w'):∃hp m,e= .returned (.pointer (some ⟨hp,0,none⟩))/\w.heap.size<=m/\Bg s hp m w'/\ZN w w':=by
 obtain⟨hp,m,rfl,_,hm,hne,hB,hM,hb⟩:=h;exact⟨hp,m,rfl,hm,⟨hB,hne,[],⟨#[],0,hM,rfl⟩,fun k v hk=>by cases hk⟩,hb⟩
end
section
open Go.RowKit
attribute [local go_sem ↓] Go.wp_at_zero Go.wp_at_succ Aj Ao Ap Aq
attribute [local go_sem] Ax BB BC BD AK AR AN
theorem Td(s nm:Nm)(h m:Nat)(leaf:Int)(w:World)(hB:Blk w h 152 (CL s m))(hl:leaf<0∨1024<=leaf):Calls prog 112 #[.pointer (some ⟨h,0,none⟩),.int .i64 leaf,nm.val] w (C7 w):=by
 have HB:=AA hB;have hW:Blk (w.alloc (.cells nm.cells 24)) h 152 (CL s m):=hB.alloc _;have c8:(w.alloc (.cells nm.cells 24)).cell? ⟨h,8,none⟩=some (I 2):=hW.cell 8;have HR:=AA (JX s h m _ hW);clear hB hW;by_cases h0:leaf<0
 ·have d0:decide (leaf<0)=true:=by simp;omega
  go_enter func112,ntmps112;go_wp2_with (go_at_call 90;refine HR.out.mono ?_;rintro en w2 ⟨rfl,rfl⟩)
  go_ret2;exact⟨rfl,(AC _ _).alloc (AB _) _⟩
 ·have d0:decide (leaf<0)=false:=by simp;omega
  have d1:decide (1024<=leaf)=true:=by simp;omega
  go_enter func112,ntmps112;go_wp2_with ((first
   |(go_at_call 90;refine HR.out.mono ?_;rintro en w2 ⟨rfl,rfl⟩)
   |(go_at_call 78;refine(Ei _).mono ?_;rintro en w3 ⟨rfl,rfl⟩)))
  go_ret2;exact⟨rfl,(AC _ _).alloc (AB _) _⟩
def YW(w:World)(e:Ending)(w':World):Prop:=e= .returned (.tuple #[.agg Al,.bool false])/\ZN w w'
theorem N2(s:Nm)(h m:Nat)(leaf:Int)(v:Vt)(w:World)(hv:v.ok)(hB:Blk w h 152 (CL s m))(hl:leaf<0∨1024<=leaf)(hy:Ab v):Calls prog 77 #[.pointer (some ⟨h,0,none⟩),.int .i64 leaf,v.val] w (YW w):=by
 obtain⟨w1,hw1⟩:=ZH ((w.alloc (.cells v.cells 46)).alloc (.cells Al 62));have hbw:ZN w w1:=by rw[hw1];exact((AC _ _).alloc (AB _) _).alloc (by simp) _
 have HBk:Hid (Blk w1 h 152 (CL s m)):=by unfold Hid;rw[hw1];exact(hB.alloc _).alloc _
 have HBv:Hid (Blk w1 w.heap.size 46 v.cells):=by unfold Hid;rw[hw1];exact(Blk.new w _ _).alloc _
 have HBr:Hid (Blk w1 (w.heap.size+1) 62 Al):=by
  unfold Hid;rw[hw1];have:=Blk.new (w.alloc (.cells v.cells 46)) 62 Al;simpa using this
 have HV:Hid (∀W,Calls prog 49 #[v.val] W fun e w'=>e= .returned (.bool true)/\ZN W w'):=fun W=>FR v W hv hy
 have HNm:=AA (fun W=>JN v W hv hy);have HS:=AA (fun(nm:Nm) (W:World) (hW:Blk W h 152 (CL s m))=>Td s nm h m leaf W hW hl);have hs1:w1.heap.size=w.heap.size+2:=by rw[hw1];simp
 have hx:AJ w1 w.heap.size 0 22=some v.cells:=HBv.out.row 22 rfl;have hlt:h<w1.heap.size:=HBk.out.lt;clear hB hl hy hv;go_enter func77,ntmps77;go_upto_region 1 with fail
 rw[<-hw1];clear hw1;go_wp2_with ((first
  |(go_at_call 49;refine(HV.out _).mono ?_;rintro en w2 ⟨rfl,hb2⟩;have hx2:AJ w2 w.heap.size 0 22=some v.cells:=(HBv.out.below hb2 HBv.out.lt).row 22 rfl)
  |(go_at_call 113;refine(HNm.out _).mono ?_;rintro en w3 ⟨rfl,hb3⟩)
  |(go_at_call 112;refine(HS.out _ _ ((HBk.out.below hb2 HBk.out.lt).below hb3 (HBk.out.below hb2 HBk.out.lt).lt)).mono ?_;rintro en w4 ⟨rfl,hb4⟩;have hHR:=hb2.trans ((hb3.trans (hb4.mono hb3.size)).mono hb2.size);have hFQ:=AA (HBr.out.below hHR HBr.out.lt))
  |(refine AI rfl 62 (.tmp 6) (.tmp 24) rfl (w.heap.size+1) Al rfl rfl 62 Al hFQ.out rfl Bm (fun u hu=>IH hu) ?_;intro w5 hR5 hg5 yp)))
 have xE:=hbw.trans (hHR.mono hbw.size);exact bodyPost_ret (AW (g:=w.heap.size+1) (cs:=Al) rfl _ _ _ _ _ rfl hR5 underlying62 rfl Bm) rfl ⟨rfl,xE.grown hg5 xE.size (by rintro j ⟨⟩;omega)⟩
theorem Vf{o:Oper}{a:Act}(v:Vt)(sig:List UInt8)(A:Option Addr)(c:Nat)(s t:Operand)(ho:o.op= .build 62 #[(0,s),(1,t)])(hs:a.eval s= .agg v.cells)(ht:a.eval t= .slice A sig.length c)(w:World):(execOp a.eval o).run prog w= .ok (.value (Sg.mk v sig A c).val) w:=by
 unfold Sg.val;rw[P9];unfold execOp;rw[ho];simp only[List.map_toArray,List.map_cons,List.map_nil,hs,ht];go_simp
def SgG(base:Nat)(v:Vt)(sig:List UInt8)(cs:Array Value)(w:World):Prop:=∃A c,cs=(Sg.mk v sig A c).cells/\w.ownsRow base 5 1 (.slice A sig.length c) sig.length (sig.map B)
def XY(G:Array Value->World->Prop)(ok:Bool)(m:Nat)(w:World)(e:Ending)(w':World):Prop:=
 ∃cs,e= .returned (.tuple #[.agg cs,.bool ok])/\G cs w'/\w.grownBy w' (some m)
theorem Lm(s:Nm)(h m leaf base:Nat)(v:Vt)(w:World)(hv:v.ok)(hk:Bg s h m w)(hl:leaf<1024)(hy:Ab v)(yT:base<=w.heap.size):Calls prog 77 #[.pointer (some ⟨h,0,none⟩),.int .i64 (leaf:Int),v.val] w fun e w'=>XY (SgG base v (Dj s leaf (DU v))) true m w e w'/\Bg s h m w':=by
 obtain⟨w1,hw1⟩:=ZH ((w.alloc (.cells v.cells 46)).alloc (.cells Al 62));have hbw:ZN w w1:=by rw[hw1];exact((AC _ _).alloc (AB _) _).alloc (by simp) _
 have HK1:=AA (hk.below hbw);have hml:=N0 hk;have HBv:Hid (Blk w1 w.heap.size 46 v.cells):=by unfold Hid;rw[hw1];exact(Blk.new w _ _).alloc _
 have HBr:Hid (Blk w1 (w.heap.size+1) 62 Al):=by
  unfold Hid;rw[hw1];have:=Blk.new (w.alloc (.cells v.cells 46)) 62 Al;simpa using this
 have HV:Hid (∀W,Calls prog 49 #[v.val] W fun e w'=>e= .returned (.bool true)/\ZN W w'):=fun W=>FR v W hv hy
 have HNm:=AA (fun W=>JN v W hv hy);have HS:=AA (fun(nm:Nm) (W:World) (hW:Bg s h m W)=>Rp s nm h m leaf W hW hl);have hx:AJ w1 w.heap.size 0 22=some v.cells:=HBv.out.row 22 rfl;obtain⟨q,hq⟩:=ZH w.heap.size;obtain⟨r,hr⟩:=ZH (w.heap.size+1);rw[<-hq]at HBv hx;rw[<-hr]at HBr;have hqm:q≠m:=by omega
 have hrm:r≠m:=by omega
 have hqr:q≠r:=by omega
 have HW:Hid (w.heap.size<=r):=by unfold Hid;omega
 obtain⟨nm,hnm⟩:=ZH (DU v);rw[<-hnm]at HNm ⊢;have HS2:=AA (HS.out nm);obtain⟨sg,hsg⟩:=ZH (Dj s leaf nm);have HSg:Hid (sg.length=370):=by unfold Hid;rw[hsg];exact I6 _ _ _
 have HPo:Hid (∀W e w',Mk s h m leaf nm W e w'->∃A c,e= .returned (.tuple #[.slice A 370 c,.bool true])/\w'.ownsRow W.heap.size 5 1 (.slice A 370 c) 370 (sg.map B)/\Bg s h m w'/\W.grownBy w' (some m)):=fun W e w' hp=>by rw[hsg];exact hp
 rw[<-hsg];clear hk hy hv hnm hsg hl HS;go_enter func77,ntmps77;go_upto_region 1 with fail
 rw[<-hw1,<-hr,<-hq];clear hw1 hq hr;go_upto_region 4 with(first
  |(go_at_call 49;refine(HV.out _).mono ?_;rintro en w2 ⟨rfl,hb2⟩;have hx2:AJ w2 q 0 22=some v.cells:=(HBv.out.below hb2 HBv.out.lt).row 22 rfl)
  |(go_at_call 113;refine(HNm.out _).mono ?_;rintro en w3 ⟨rfl,hb3⟩;have yC:=hb2.trans (hb3.mono hb2.size))
  |(go_at_call 112;refine(HS2.out _ (HK1.out.below yC)).mono ?_;rintro en w4 h4;obtain⟨A4,c4,rfl,xZ,hk4,hg4⟩:=HPo.out _ _ _ h4;clear h4))
 have hgr:=(FQ (row:=some m) hbw).trans ((FQ yC).trans hg4);have x4:AJ w4 q 0 22=some v.cells:=((HBv.out.below yC HBv.out.lt).kept hg4 (by simpa using hqm)).row 22 rfl;have HR4:=AA ((HBr.out.below yC HBr.out.lt).kept hg4 (by simpa using hrm));have hb3s:base<=w3.heap.size:=AG yT (AG hbw.size yC.size);have HO4:=AA (BE xZ hb3s);have HKA:=AA hk4;clear xZ hk4 hg4 hx2 hb2 hb3 yC hx HBv HBr HK1 HV HNm HS2 HPo hb3s;try go_frame
 go_wp2_with (first
  |(refine Great.wpList_readTo rfl (some 27) rfl (Sg.mk v sg A4 c4).val (Vf v sg A4 c4 (.tmp 25) (.tmp 26) rfl rfl (by rw[HSg.out];rfl) _) ?_)
  |(refine AI rfl 62 (.tmp 6) (.tmp 27) rfl r (Sg.mk v sg A4 c4).cells rfl rfl 62 Al HR4.out (by rw[Sg.size_cells];rfl) (by rw[Sg.size_cells];exact Bm) (fun u hu=>GP _ hu) ?_;intro w5 hR5 hg5 yp))
 refine bodyPost_ret (AW (g:=r) (cs:=(Sg.mk v sg A4 c4).cells) rfl _ _ _ _ _ rfl hR5 underlying62 rfl (by rw[Sg.size_cells];exact Bm)) rfl ⟨⟨_,rfl,⟨A4,c4,rfl,?_⟩,L9 hgr hg5 HW.out⟩,HKA.out.far HR4.out (by decide) (by decide) hg5⟩;rw[HSg.out];exact HO4.out.kept hg5 (.inr fun e=>CJ HO4.out HR4.out (by decide) e.symm)
theorem Ml(p:Option Addr)(leaf:Int)(v:Vt)(w:World)(hv:v.ok)(hy:¬Ab v):Calls prog 77 #[.pointer p,.int .i64 leaf,v.val] w (YW w):=by
 obtain⟨w1,hw1⟩:=ZH ((w.alloc (.cells v.cells 46)).alloc (.cells Al 62));have hbw:ZN w w1:=by rw[hw1];exact((AC _ _).alloc (AB _) _).alloc (by simp) _
 have hBv:Blk w1 w.heap.size 46 v.cells:=by rw[hw1];exact(Blk.new w _ _).alloc _
 have HBr:Hid (Blk w1 (w.heap.size+1) 62 Al):=by
  unfold Hid;rw[hw1];have:=Blk.new (w.alloc (.cells v.cells 46)) 62 Al;simpa using this
 have HV:Hid (∀W,Calls prog 49 #[v.val] W fun e w'=>e= .returned (.bool false)/\ZN W w'):=fun W=>Id v W hv hy
 have hx:AJ w1 w.heap.size 0 22=some v.cells:=hBv.row 22 rfl;clear hy hv hBv;go_enter func77,ntmps77;go_upto_region 1 with fail
 rw[<-hw1];clear hw1;go_wp2_with (first
  |(go_at_call 49;refine(HV.out _).mono ?_;rintro en w2 ⟨rfl,hb2⟩;have hFQ:=AA (HBr.out.below hb2 HBr.out.lt))
  |(refine AI rfl 62 (.tmp 6) (.tmp 13) rfl (w.heap.size+1) Al rfl rfl 62 Al hFQ.out rfl Bm (fun u hu=>IH hu) ?_;intro w5 hR5 hg5 yp))
 have xE:=hbw.trans (hb2.mono hbw.size);exact bodyPost_ret (AW (g:=w.heap.size+1) (cs:=Al) rfl _ _ _ _ _ rfl hR5 underlying62 rfl Bm) rfl ⟨rfl,xE.grown hg5 xE.size (by rintro j ⟨⟩;omega)⟩
theorem SgG.kept{base:Nat}{v:Vt}{sig:List UInt8}{cs:Array Value}{V V':World}{r t:Nat}{x:Array Value}(h:SgG base v sig cs V)(hB:Blk V r t x)(ht:5≠t)(hg:V.grownBy V' (some r)):SgG base v sig cs V':=by
 obtain⟨A,c,rfl,ho⟩:=h;exact⟨A,c,rfl,ho.kept hg (.inr fun e=>CJ ho hB ht e.symm)⟩
theorem SgG.one{base:Nat}{v:Vt}{sig:List UInt8}{cs:Array Value}{V:World}(h:SgG base v sig cs V):cs.size=23/\∀u∈cs.toList,u.oneCell'=true:=by
 obtain⟨A,c,rfl,_⟩:=h;exact⟨Sg.size_cells _,fun u hu=>GP _ hu⟩
end
section
open Go.RowKit
attribute [local go_sem ↓] Go.wp_at_zero Go.wp_at_succ Aj Ao Ap Aq JR
attribute [local go_sem] Ax BB BC BD MQ AK AR AN
structure Ch where
 slot:Int
 value:Nm
 deriving DecidableEq
abbrev Ch.cells(o:Ch):Array Value:=#[I o.slot,B o.value.b0,B o.value.b1,B o.value.b2,B o.value.b3,B o.value.b4,B o.value.b5,B o.value.b6,B o.value.b7]
abbrev Ch.val(o:Ch):Value:=.agg o.cells
abbrev Ch.zero:Ch:=⟨0,Nm.zero⟩
abbrev chc(o:Ch):List Value:=o.cells.toList
theorem Ig(l:List Ch):∀o∈l,(chc o).length=9:=fun _ _=>rfl
theorem Te{u:Value}(o:Ch)(h:u∈o.cells.toList):u.oneCell'=true:=by
 simp at h;rcases h with rfl|rfl|rfl|rfl|rfl|rfl|rfl|rfl|rfl <;> rfl
def Fm(o:Oc):Ch:=⟨o.slot,o.value⟩
theorem Qo:(prog.info? 88).map (fun i=>(i.zero,i.size,i.bytes))=some (some (.agg Ch.zero.cells),9,16):=by kernel_rfl
theorem Y2(a b:Ch)(w:World):(Op.equalIn 10000 88 a.val b.val).run prog w= .ok (decide (a=b)) w:=by
 have u3:=underlying3;have a3:=isAgg3;have z3:=sizeOf3;have a5:=isAgg24;have z5:=sizeOf24;have hS:prog.underlying 88=some (.struct (prog.fieldsOf 88)):=by kernel_rfl
 rw[show(10000:Nat)=9999+1 from rfl,run_equalIn_agg w 9999 88 _ _ hS (by kernel_rfl)];have e6:=fun w=>ED a.value b.value w 9997
 simp only[Program.fieldsOf,underlying88];go_simp;rw[Ea];refine EZ w ?_;cases a;cases b;simp
def XZ(w:World)(L:List Oc)(e:Ending)(w':World):Prop:=
 ∃v:Value,e= .returned v/\w'.ownsRow w.heap.size 88 9 v L.length ((L.map Fm).flatMap chc)/\ZN w w'
def YX(L:List Oc)(w:World)(v iv:Value)(wr:World):Prop:=
 ∃i:Nat,iv= .int .i64 (i:Int)/\i<=L.length/\wr.ownsRow w.heap.size 88 9 v i (((L.take i).map Fm).flatMap chc)/\ZN w wr
theorem Vg(A:Option Addr)(n c:Nat)(L:List Oc)(w:World)(hn:L.length=n)(hr:Rd w w.heap.size A (L.flatMap occ))(hsm:n<=1000000):Calls prog 45 #[.slice A n c] w (XZ w L):=by
 have HN:=AA hn;have HR:=AA hr;clear hn hr;go_enter func45,ntmps45;go_wp2
 go_loopw [3,8] (fun v iv wr=>YX L w v iv wr) (fun _ iv _=>n-(intOf iv).toNat)
 case atStart=>exact⟨0,rfl,Nat.zero_le _,⟨by simp,.inl ⟨rfl,rfl⟩⟩,AC _ _⟩
 case round=>
  obtain⟨i,rfl,hin,xA,hbw⟩:=hrel;rw[HN.out]at hin;by_cases hi:i<n
  ·have di:=ZK (show i<n by omega)
   obtain⟨T,hT⟩:=ZH (((L.take i).map Fm).flatMap chc);rw[<-hT]at xA;have HT:=AA hT;have xK:=AA xA;clear xA hT;obtain⟨x,hx⟩:∃x,L[i]? =some x:=⟨_,AD (by rw[HN.out];exact hi)⟩;obtain⟨b,o,rfl,hb,xH⟩:=HR.out.cells (by intro e;have:=AY occ 11 L (Ix L);rw[e,HN.out]at this;simp at this;omega);clear xH;have x1:AJ wr b (o+i*11) 11=some x.cells:=(HR.out.below hbw).ocRow hx;have HX:=AA hx;clear hx;go_upto_region 5 with(refine AI rfl 142 (.tmp 5) (.tmp 11) rfl wr.heap.size x.cells rfl rfl 142 Oc.zero.cells (Blk.new wr _ _) (by rfl) (by kernel_rfl) (fun u hu=>NA x hu) ?_;intro w4 hB4 hg4 xc)
   have xM:Hid (w4.ownsRow w.heap.size 88 9 u3 i T):=Bb (xK.out.alloc _) hg4 (fun k hk=>by
    injection hk with hk
    subst hk;right;intro e;have:=(xK.out.lt _ e).2;omega)
   have xE:ZN w w4:=(hbw.alloc hbw.size _).grown hg4 (AG hbw.size (by simp)) (ZJ hbw.size);obtain⟨z,hz⟩:=ZH wr.heap.size;rw[<-hz]at hB4 ⊢;have x3:AJ w4 z 3 8=some x.value.cells:=x.row_value hB4;have x4:w4.cell? ⟨z,0,none⟩=some (.int .i64 x.slot):=hB4.cell 0;clear hB4 hg4 xc x1 hz xK hbw;try go_frame
   go_wp2_with ((first
    |(refine BS rfl 36 88 (.tmp 17) rfl (Fm x).cells rfl underlying36 (by kernel_rfl) (by decide) (by decide) ?_)
    |(at_builtin;refine Ar rfl (.tmp 12) (.tmp 18) _ rfl w.heap.size 88 (.agg Ch.zero.cells) 9 16 underlying36 Qo rfl (by decide) u3 i T rfl ?r0 (w4.heap.size+1) (some ⟨w4.heap.size,0,none⟩) 1 1 (chc (Fm x)) rfl ?r1 ?r2 ?r3 ?r4 ?r5 ?r6 ?_)))
   case r0=>exact xM.out.alloc _
   case r1=>rfl
   case r2=>exact Rd.mk (by omega) (fun j u hu=>by rw[Nat.zero_add,(Blk.new w4 _ _).cell];simpa[Fm]using hu)
   case r3=>exact fun u hu=>Te _ hu
   case r4=>omega
   case r5=>unfold maxLen;omega
   case r6=>have:=xE.size;simp;omega
   intro v7 w7 xL hg7 xr;have yR:ZN w w7:=BJ (xE.alloc xE.size _) (xM.out.alloc _) hg7;have xU:=AA xL;clear xL hg7 xr x3 x4 xM;go_wp2;go_roundw
   case rel=>
    refine⟨i+1,by go_num,by rw[HN.out];omega,?_,yR⟩;have h:=xU.out;rw[HT.out]at h;rw[Ai,HX.out,Ae,Af];simpa using h
   case measure=>simp[intOf];omega
  ·obtain rfl:n=i:=by omega
   have di:decide ((n:Int)<(n:Int))=false:=by simp
   have HT:Hid (L.take n=L):=by unfold Hid;rw[<-HN.out,List.take_length]
   rw[HT.out]at xA;have xK:=AA xA;clear xA;go_wp2;go_ret;exact⟨_,rfl,by rw[HN.out];exact xK.out,hbw⟩
end
section
open Go.RowKit
def Off(w:World)(k:Nat)(t:TypeId):Prop:=∀cs,¬Blk w k t cs
theorem Off.blk{w:World}{k t t':TypeId}{cs:Array Value}(h:Blk w k t' cs)(hne:t'≠t):Off w k t:=fun _ h'=>hne (CW h h')
theorem Off.map{κ:Type}{enc:κ->Value}{w:World}{k t:Nat}{l:List (κ×Value)}(h:By enc w k l):Off w k t:=fun cs hB=>by
 obtain⟨es,c,h1,_⟩:=h;unfold Blk at hB;rw[hB]at h1;cases h1
theorem BR{w w':World}{base e size n k:Nat}{v:Value}{xs:List Value}(h:w.ownsRow base e size v n xs)(hg:w.grownBy w' (some k))(ho:Off w k e):w'.ownsRow base e size v n xs:=
 Bb h hg (fun j hj=>by
  injection hj with hj
  subst hj;right;intro he;rcases h.2 with⟨rfl,_⟩|⟨g,cap,cur,rfl,_,hh,_⟩
  ·simp[Value.ownBlock]at he
  ·have:g=k:=by simpa[Value.ownBlock]using he
   subst this;exact ho _ hh)
theorem Blk.off{w w':World}{g t k:Nat}{cs:Array Value}(h:Blk w g t cs)(hg:w.grownBy w' (some k))(ho:Off w k t):Blk w' g t cs:=h.kept hg (fun e=>by injection e with e;subst e;exact ho _ h)
theorem Bo.off{w w':World}{b k:Nat}{s:Sg}(h:Bo w b s)(hg:w.grownBy w' (some k))(ho:Off w k 5):Bo w' b s:=⟨h.1,BR h.2.1 hg ho,h.2.2⟩
theorem Bg.off{s:Nm}{h m k:Nat}{w w':World}(hk:Bg s h m w)(hg:w.grownBy w' (some k))(hm:m≠k)(h1:Off w k 24)(h2:Off w k 152):Bg s h m w':=by
 obtain⟨a1,a2,tl,a3,a4⟩:=hk;refine⟨a1.off hg h2,a2,tl,a3.kept hg (by simpa using hm),fun a b hab=>?_⟩;obtain⟨l,n,g,e1,e2,e3⟩:=a4 a b hab;refine⟨l,n,g,e1,e2,e3.kept hg (fun e=>?_)⟩;injection e with e
 subst e;obtain⟨cur,hC,_⟩:=e3;exact h1 _ hC
structure PrS where
 v:Value
 L:List Sg
 mem:Nat
 acts:Int
 leaf:Nat
 pay:Nm
 dv:Value
 dec:List Ch
 dd:Bool
abbrev PrS.cells(P:PrS):Array Value:=#[P.v,.int .i64 (P.mem:Int),.int .i64 P.acts,.int .i64 (P.leaf:Int),B P.pay.b0,B P.pay.b1,B P.pay.b2,B P.pay.b3,B P.pay.b4,B P.pay.b5,B P.pay.b6,B P.pay.b7,P.dv,.bool P.dd]
structure DL (Bs:Nat)(w:World)(b:Nat)(P:PrS):Prop where
 blk:Blk w b 97 P.cells
 row:w.ownsRow Bs 62 23 P.v P.L.length (P.L.flatMap sgc)
 sgs:∀s∈P.L,Bo w Bs s
 dec:w.ownsRow Bs 88 9 P.dv P.dec.length (P.dec.flatMap chc)
theorem DL.off{Bs:Nat}{w w':World}{b k:Nat}{P:PrS}(h:DL Bs w b P)(hg:w.grownBy w' (some k))(hb:b≠k)(h1:Off w k 62)(h2:Off w k 5)(h3:Off w k 88):DL Bs w' b P:=
 ⟨h.blk.kept hg (fun e=>by injection e with e;exact hb e),BR h.row hg h1,fun s hs=>(h.sgs s hs).off hg h2,BR h.dec hg h3⟩
theorem DL.below{Bs:Nat}{w w':World}{b:Nat}{P:PrS}(h:DL Bs w b P)(hb:ZN w w'):DL Bs w' b P:=
 ⟨h.blk.below hb h.blk.lt,Ay h.row hb (AB _),fun s hs=>(h.sgs s hs).below hb (AB _),Ay h.dec hb (AB _)⟩
theorem DL.row_pay{Bs:Nat}{w:World}{b:Nat}{P:PrS}(h:DL Bs w b P):AJ w b 4 8=some P.pay.cells:=
 Blk.part h.blk 4 P.pay.cells (fun j u hu=>by
  have hj:j<8:=(Aa.1 hu).1;rcases(by omega:j=0∨j=1∨j=2∨j=3∨j=4∨j=5∨j=6∨j=7)with rfl|rfl|rfl|rfl|rfl|rfl|rfl|rfl <;> exact hu)
structure KyS where
 seed:Nm
 h:Nat
 m:Nat
structure GmS where
 M:Int
 hon:Int
 par:Nm
 kv:Value
 pv:Value
 sv:Value
 ks:List KyS
 ps:List (Nat×PrS)
 sg:List (Value×List Vt)
abbrev GmS.cells(G:GmS):Array Value:=#[.int .i64 G.M,.int .i64 G.hon,B G.par.b0,B G.par.b1,B G.par.b2,B G.par.b3,B G.par.b4,B G.par.b5,B G.par.b6,B G.par.b7,G.kv,G.pv,G.sv]
abbrev Az(b:Nat):Value:=.pointer (some ⟨b,0,none⟩)
structure A9 (Bs:Nat)(w:World)(g:Nat)(G:GmS):Prop where
 blk:Blk w g 93 G.cells
 krow:w.ownsRow Bs 112 1 G.kv G.ks.length (G.ks.map fun k=>Az k.h)
 prow:w.ownsRow Bs 98 1 G.pv G.ps.length (G.ps.map fun p=>Az p.1)
 srow:w.ownsRow Bs 56 1 G.sv G.sg.length (G.sg.map fun x=>x.1)
 keys:∀(i:Nat) (k:KyS),G.ks[i]? =some k->Bg k.seed k.h k.m w/\Bs<=k.m
 prs:∀(i:Nat) (p:Nat×PrS),G.ps[i]? =some p->DL Bs w p.1 p.2/\Bs<=p.1
 sgs:∀(i:Nat) (x:Value×List Vt),G.sg[i]? =some x->w.ownsRow Bs 46 22 x.1 x.2.length (x.2.flatMap vtc)
 kn:∀(i j:Nat) (k k':KyS),G.ks[i]? =some k->G.ks[j]? =some k'->k.m=k'.m->i=j
 pn:∀(i j:Nat) (p p':Nat×PrS),G.ps[i]? =some p->G.ps[j]? =some p'->p.1=p'.1->i=j
 sn:∀(i j:Nat) (x y:Value×List Vt) (k:Nat),G.sg[i]? =some x->G.sg[j]? =some y->x.1.ownBlock=some k->y.1.ownBlock=some k->i=j
section
variable {Bs g:Nat}{w w':World}{G:GmS}
theorem A9.below(h:A9 Bs w g G)(hb:ZN w w'):A9 Bs w' g G:=
 ⟨h.blk.below hb h.blk.lt,Ay h.krow hb (AB _),Ay h.prow hb (AB _),Ay h.srow hb (AB _),fun i k hk=>⟨(h.keys i k hk).1.below hb,(h.keys i k hk).2⟩,fun i p hp=>⟨(h.prs i p hp).1.below hb,(h.prs i p hp).2⟩,fun i x hx=>Ay (h.sgs i x hx) hb (AB _),h.kn,h.pn,h.sn⟩
theorem A9.row_par(h:A9 Bs w g G):AJ w g 2 8=some G.par.cells:=
 Blk.part h.blk 2 G.par.cells (fun j u hu=>by
  have hj:j<8:=(Aa.1 hu).1;rcases(by omega:j=0∨j=1∨j=2∨j=3∨j=4∨j=5∨j=6∨j=7)with rfl|rfl|rfl|rfl|rfl|rfl|rfl|rfl <;> exact hu)
abbrev GmS.setP(G:GmS)(i b:Nat)(P:PrS):GmS:={G with ps:=G.ps.set i (b,P)}
theorem Vh{α β:Type}{l:List (α×β)}{i:Nat}{a:α}{b b':β}(h:l[i]? =some (a,b))(f:α->Value):(l.set i (a,b')).map (fun p=>f p.1)=l.map fun p=>f p.1:=by
 apply List.ext_getElem?;intro j;rw[AQ,AQ,List.getElem?_set];by_cases hj:i=j
 ·subst hj;have hl:=(AE.1 h).1;rw[if_pos rfl,if_pos hl,h];rfl
 ·rw[if_neg hj]
theorem B0{α:Type}{l:List α}{i j:Nat}{x y:α}(h:(l.set i x)[j]? =some y):(i=j/\y=x)∨(i≠j/\l[j]? =some y):=by
 rw[List.getElem?_set]at h;by_cases hj:i=j
 ·rw[if_pos hj]at h;split at h
  ·injection h with h
   exact .inl ⟨hj,h.symm⟩
  ·cases h
 ·rw[if_neg hj]at h;exact .inr ⟨hj,h⟩
theorem A9.setP{i b:Nat}{P P':PrS}(h:A9 Bs w g G)(hi:G.ps[i]? =some (b,P))(hg:w.grownBy w' (some b))(hP:DL Bs w' b P'):A9 Bs w' g (G.setP i b P'):=by
 have hB:=(h.prs i _ hi).1.blk;have hm:∀(j:Nat) (k:KyS),G.ks[j]? =some k->k.m≠b:=fun j k hk e=>by
  obtain⟨_,_,tl,h3,_⟩:=(h.keys j k hk).1;exact(Off.map h3:Off w k.m 97) _ (e▸hB)
 refine⟨h.blk.off hg (.blk hB (by decide)),BR h.krow hg (.blk hB (by decide)),?_,BR h.srow hg (.blk hB (by decide)),fun j k hk=>⟨(h.keys j k hk).1.off hg (hm j k hk) (.blk hB (by decide)) (.blk hB (by decide)),(h.keys j k hk).2⟩,fun j p hp=>?_,fun j x hx=>BR (h.sgs j x hx) hg (.blk hB (by decide)),h.kn,fun j j' p p' hp hp' he=>?_,h.sn⟩
 ·have:=BR h.prow hg (.blk hB (by decide));show w'.ownsRow Bs _ 1 G.pv (G.ps.set i (b,P')).length ((G.ps.set i (b,P')).map fun p=>Az p.1);rwa[Vh hi,List.length_set]
 ·rcases B0 hp with⟨rfl,rfl⟩|⟨hj,hp⟩
  ·exact⟨hP,(h.prs i _ hi).2⟩
  ·have hne:p.1≠b:=fun e=>hj (h.pn i j _ _ hi hp e.symm)
   exact⟨(h.prs j p hp).1.off hg hne (.blk hB (by decide)) (.blk hB (by decide)) (.blk hB (by decide)),(h.prs j p hp).2⟩
 ·rcases B0 hp with⟨rfl,rfl⟩|⟨hj,hp⟩
  ·rcases B0 hp' with⟨h1,_⟩|⟨_,hp'⟩
   ·exact h1
   ·exact h.pn _ _ _ _ hi hp' he
  ·rcases B0 hp' with⟨rfl,rfl⟩|⟨_,hp'⟩
   ·exact h.pn _ _ _ _ hp hi he
   ·exact h.pn _ _ _ _ hp hp' he
theorem A9.turnM{i:Nat}{k:KyS}(h:A9 Bs w g G)(hi:G.ks[i]? =some k)(hg:w.grownBy w' (some k.m))(hk:Bg k.seed k.h k.m w'):A9 Bs w' g G:=by
 obtain⟨_,_,tl,hM,_⟩:=(h.keys i k hi).1;have ho:∀t,Off w k.m t:=fun t=>.map hM
 refine⟨h.blk.off hg (ho _),BR h.krow hg (ho _),BR h.prow hg (ho _),BR h.srow hg (ho _),fun j k' hk'=>?_,fun j p hp=>?_,fun j x hx=>BR (h.sgs j x hx) hg (ho _),h.kn,h.pn,h.sn⟩
 ·by_cases hj:i=j
  ·subst hj;rw[hi]at hk';injection hk' with hk'
   subst hk';exact⟨hk,(h.keys i k hi).2⟩
  ·exact⟨(h.keys j k' hk').1.off hg (fun e=>hj (h.kn i j _ _ hi hk' e.symm)) (ho _) (ho _),(h.keys j k' hk').2⟩
 ·exact⟨(h.prs j p hp).1.off hg (fun e=>ho _ _ (e▸(h.prs j p hp).1.blk)) (ho _) (ho _) (ho _),(h.prs j p hp).2⟩
theorem Vi{base e sb n c m:Nat}{u:Value}{xs:List Value}(h:w.ownsRow base e 1 (.slice (some ⟨sb,0,none⟩) n c) n xs):(w.setCell ⟨sb,m,none⟩ u).ownsRow base e 1 (.slice (some ⟨sb,0,none⟩) n c) n (xs.set m u):=by
 refine⟨by rw[List.length_set];exact h.1,?_⟩;rcases h.2 with⟨h0,_⟩|⟨g',cap,cur,hv,h1,h2,h3,h4,h5,h6⟩
 ·cases h0
 ·simp only[Value.slice.injEq,Option.some.injEq,Addr.mk.injEq,and_true,true_and]at hv;obtain⟨rfl,rfl⟩:=hv;have hB:Blk w sb e cur:=h2;refine .inr ⟨sb,c,cur.setIfInBounds m u,rfl,h1,hB.put m u,h3,h4,by rw[Array.size_setIfInBounds];exact h5,?_⟩;rw[Array.toList_setIfInBounds,<-h6,List.take_set]
abbrev GmS.setS(G:GmS)(m:Nat)(v:Value)(l:List Vt):GmS:={G with sg:=G.sg.set m (v,l)}
theorem Tf{l:List (Value×List Vt)}{m:Nat}{v:Value}{x:List Vt}:(l.set m (v,x)).map (fun x=>x.1)=(l.map fun x=>x.1).set m v:=by
 rw[List.map_set]
theorem A9.setS{m sb n c:Nat}{v0 v1:Value}{l0 l1:List Vt}{w1:World}(h:A9 Bs w g G)(hm:G.sg[m]? =some (v0,l0))(hsv:G.sv= .slice (some ⟨sb,0,none⟩) n c)(hg:w.grownBy w1 v0.ownBlock)(xA:w1.ownsRow Bs 46 22 v1 l1.length (l1.flatMap vtc))(hat:v1.ownBlock=v0.ownBlock∨∃z,v1.ownBlock=some z/\w.heap.size<=z):A9 Bs (w1.setCell ⟨sb,m,none⟩ v1) g (G.setS m v1 l1)/\w1.grownBy (w1.setCell ⟨sb,m,none⟩ v1) (some sb):=by
 have hg2:w1.grownBy (w1.setCell ⟨sb,m,none⟩ v1) (some sb):=Bl (p:=⟨sb,m,none⟩) (Am w1 sb) rfl v1;have hlen:G.sg.length=n:=by
  have h2:=h.srow;rw[hsv]at h2;rcases h2.2 with⟨h0,_⟩|⟨g',cap,cur,hv,_⟩
  ·cases h0
  ·injection hv with _ hv _
   exact hv.symm
 --all else stands in w1
 have ho:∀(k:Nat) (t:TypeId),v0.ownBlock=some k->t≠46->Off w k t:=fun k t hk ht=>by
  rcases(h.sgs m _ hm).2 with⟨hv,_⟩|⟨g',cap,cur,hv,_,hh,_⟩
  ·rw[show v0=_ from hv]at hk;simp[Value.ownBlock]at hk
  ·rw[show v0=_ from hv]at hk;have:g'=k:=by simpa[Value.ownBlock]using hk
   subst this;exact .blk hh (fun e=>ht e.symm)
 have K1:∀{base e size n':Nat} {v:Value} {xs:List Value},e≠46->w.ownsRow base e size v n' xs->w1.ownsRow base e size v n' xs:=fun he hr=>by
  rcases hv:v0.ownBlock with _|k
  ·rw[hv]at hg;exact Bb hr hg (fun k hk=>by cases hk)
  ·rw[hv]at hg;exact BR hr hg (ho k _ hv he)
 have B1:∀{b t:Nat} {cs:Array Value},t≠46->Blk w b t cs->Blk w1 b t cs:=fun ht hB=>by
  rcases hv:v0.ownBlock with _|k
  ·rw[hv]at hg;exact hB.kept hg (by simp)
  ·rw[hv]at hg;exact hB.off hg (ho k _ hv ht)
 have Y1:∀(j:Nat) (k:KyS),G.ks[j]? =some k->Bg k.seed k.h k.m w1:=fun j k hk=>by
  have hK:=(h.keys j k hk).1;rcases hv:v0.ownBlock with _|z
  ·rw[hv]at hg;obtain⟨a1,a2,tl,a3,a4⟩:=hK;exact⟨a1.kept hg (by simp),a2,tl,a3.kept hg (by simp),fun a b hab=>by
    obtain⟨l,n,g,e1,e2,e3⟩:=a4 a b hab;exact⟨l,n,g,e1,e2,e3.kept hg (by simp)⟩⟩
  ·rw[hv]at hg;refine hK.off hg (fun e=>?_) (ho z _ hv (by decide)) (ho z _ hv (by decide));obtain⟨_,_,tl,a3,_⟩:=hK;rcases(h.sgs m _ hm).2 with⟨hv',_⟩|⟨g',cap,cur,hv',_,hh,_⟩
   ·rw[show v0=_ from hv']at hv;simp[Value.ownBlock]at hv
   ·rw[show v0=_ from hv']at hv;have:g'=z:=by simpa[Value.ownBlock]using hv
    subst this;exact(Off.map a3:Off w k.m 46) _ (e▸hh)
 have hs1:w1.ownsRow Bs 56 1 (.slice (some ⟨sb,0,none⟩) n c) n (G.sg.map fun x=>x.1):=by
  have:=K1 (by decide) h.srow;rwa[hsv,hlen]at this
 have hBs:∃cs,Blk w1 sb 56 cs:=by
  rcases hs1.2 with⟨h0,_⟩|⟨g',cap,cur,hv,_,hh,_⟩
  ·cases h0
  ·simp only[Value.slice.injEq,Option.some.injEq,Addr.mk.injEq,and_true,true_and]at hv;obtain⟨rfl,_⟩:=hv;exact⟨cur,hh⟩
 obtain⟨css,hBs⟩:=hBs;have o2:∀t,t≠56->Off w1 sb t:=fun t ht=>.blk hBs (fun e=>ht e.symm)
 refine⟨⟨(B1 (by decide) h.blk).off hg2 (o2 _ (by decide)),BR (K1 (by decide) h.krow) hg2 (o2 _ (by decide)),BR (K1 (by decide) h.prow) hg2 (o2 _ (by decide)),?_,fun j k hk=>⟨?_,(h.keys j k hk).2⟩,fun j p hp=>⟨?_,(h.prs j p hp).2⟩,fun j x hx=>?_,h.kn,h.pn,fun j j' x y k hx hy h1 h2=>?_⟩,hg2⟩
 ·show(w1.setCell ⟨sb,m,none⟩ v1).ownsRow Bs _ 1 G.sv (G.sg.set m (v1,l1)).length _;rw[hsv,Tf,List.length_set,hlen];exact Vi hs1
 ·have hK:=Y1 j k hk;refine hK.off hg2 (fun e=>?_) (o2 _ (by decide)) (o2 _ (by decide));obtain⟨_,_,tl,a3,_⟩:=hK;exact(Off.map a3:Off w1 k.m 56) _ (e▸hBs)
 ·have hP:=(h.prs j p hp).1;refine DL.off (w:=w1) ⟨B1 (by decide) hP.blk,K1 (by decide) hP.row,fun s hs=>⟨(hP.sgs s hs).1,K1 (by decide) (hP.sgs s hs).2.1,(hP.sgs s hs).2.2⟩,K1 (by decide) hP.dec⟩ hg2 (fun e=>?_) (o2 _ (by decide)) (o2 _ (by decide)) (o2 _ (by decide));exact(o2 97 (by decide)) _ (e▸B1 (by decide) hP.blk)
 ·rcases B0 hx with⟨_,rfl⟩|⟨hj,hx⟩
  ·exact BR xA hg2 (o2 _ (by decide))
  ·refine BR (Bb (h.sgs j x hx) hg (fun k hk=>.inr (fun e=>hj (h.sn m j _ _ k hm hx hk e)))) hg2 (o2 _ (by decide))
 ·have hCg:∀(i:Nat) (x:Value×List Vt) (z:Nat),G.sg[i]? =some x->x.1.ownBlock=some z->z<w.heap.size:=fun i x z hx hz=>((h.sgs i x hx).lt z hz).2
  rcases B0 hx with⟨rfl,rfl⟩|⟨hj,hx⟩
  ·rcases B0 hy with⟨h3,_⟩|⟨hj',hy⟩
   ·exact h3
   ·rcases hat with ha|⟨z,ha,hz⟩
    ·exact h.sn _ _ _ _ k hm hy (by rw[<-ha];exact h1) h2
    ·have hk:z=k:=by rw[show v1.ownBlock=_ from ha]at h1;injection h1
     have:=hCg j' y k hy h2;omega
  ·rcases B0 hy with⟨rfl,rfl⟩|⟨hj',hy⟩
   ·rcases hat with ha|⟨z,ha,hz⟩
    ·exact h.sn _ _ _ _ k hx hm h1 (by rw[<-ha];exact h2)
    ·have hk:z=k:=by rw[show v1.ownBlock=_ from ha]at h2;injection h2
     have:=hCg j x k hx h1;omega
   ·exact h.sn _ _ _ _ k hx hy h1 h2
end
end
section
open Go.RowKit
attribute [local go_sem ↓] Go.wp_at_zero Go.wp_at_succ Aj Ao Ap Aq
attribute [local go_sem] Ax BB BC BD AK AR AN
def JH(l:List VS):List Vt:=(B8 l).map (·.1)
theorem DL.okS{Bs:Nat}{w:World}{b:Nat}{P:PrS}(h:DL Bs w b P):CO w w.heap.size P.L:=fun s hs=>(h.sgs s hs).ok
theorem Hw{Bs:Nat}{w:World}{b:Nat}{P:PrS}(h:DL Bs w b P)(hsm:P.L.length<=1000000):Calls prog 44 #[Az b] w (GG w (JH (P.L.map Sg.vs))):=by
 obtain⟨A,c,hv,hr⟩:=Bj h.row;have y0:w.cell? ⟨b,0,none⟩=some (.slice A P.L.length c):=by rw[<-hv];exact h.blk.cell 0
 have HV:=AA (PH A P.L.length c P.L w rfl hr h.okS hsm);obtain⟨n,hn⟩:=ZH P.L.length;rw[<-hn]at y0 HV;obtain⟨D,hD⟩:=ZH (JH (P.L.map Sg.vs));have HV':Hid (Calls prog 47 #[.slice A n c] w (GG w D)):=by unfold Hid;rw[hD];exact HV.out
 rw[<-hD];clear h hv hr hsm hn hD HV;go_enter func44,ntmps44;go_wp2_with fail
 refine HV'.out.mono ?_;rintro en w2 ⟨v,rfl,hb2,xA⟩;have xK:=AA xA;clear xA;go_wp2;go_ret;exact⟨v,rfl,hb2,xK.out⟩
abbrev PrS.more(P:PrS)(v:Value)(L:List Sg):PrS:={P with v:=v,L:=L}
def Vj(Bs:Nat)(w:World)(b:Nat)(P:PrS)(l:List Sg)(e:Ending)(w':World):Prop:=
 ∃(v:Value) (L:List Sg),e= .returned (.tuple #[])/\DL Bs w' b (P.more v L)/\L.map Sg.vs=B8 ((P.L++l).map Sg.vs)/\w.grownBy w' (some b)
theorem Mm{Bs:Nat}{w:World}{b:Nat}{P:PrS}(h:DL Bs w b P)(hBs:Bs<=w.heap.size)(A2:Option Addr)(n2 c2:Nat)(l:List Sg)(hn2:l.length=n2)(hr2:Rd w w.heap.size A2 (l.flatMap sgc))(hFS:CO w w.heap.size l)(hsm:P.L.length+n2<=1000000):Calls prog 76 #[Az b,.slice A2 n2 c2] w (Vj Bs w b P l):=by
 obtain⟨A,c,hv,hr⟩:=Bj h.row;have y0:w.cell? ⟨b,0,none⟩=some (.slice A P.L.length c):=by rw[<-hv];exact h.blk.cell 0
 obtain⟨n,hn⟩:=ZI P.L.length;rw[hn]at y0 hsm;have HP:=AA h;have HNn:=AA hn;have HN2:=AA hn2;have HR:=AA hr;have HR2:=AA hr2;have HOk4:Hid (∀V,ZN w V->CO V V.heap.size (P.L++l)):=fun V hV s hs=>by
  rcases AP.1 hs with hs|hs
  ·exact((h.below hV).sgs s hs).ok
  ·exact⟨((hFS s hs).1.below hV).more hV.size,(hFS s hs).2⟩
 clear h hv hr hn hn2 hr2 hFS;go_enter func76,ntmps76;go_wp2_with (first
  |(at_builtin;refine Ar rfl (.const (.slice none 0 0)) (.tmp 8) _ rfl w.heap.size 62 (.agg Al) 23 88 underlying50 CT rfl (by decide) (.slice none 0 0) 0 [] rfl ⟨by simp,.inl ⟨rfl,rfl⟩⟩ w.heap.size A n c (P.L.flatMap sgc) rfl (by rw[AY sgc 23 P.L (Cc P.L),HNn.out]) HR.out (fun u hu=>by obtain⟨s,_,hs⟩:=List.mem_flatMap.1 hu;exact s.one u hs) (by omega) (by unfold maxLen;omega) (AB _) ?_;intro v3 w3 xD hg3 yb;change w.grownBy w3 none at hg3;have hb3:ZN w w3:=(AC _ w).grown hg3 (AB _) (fun k hk=>by cases hk);rw[Nat.zero_add,List.nil_append]at xD;obtain⟨A3,c3,rfl,hr3⟩:=Bj xD;have yM:=AA xD;have hHS:Hid (Rd w3 w3.heap.size A2 (l.flatMap sgc)):=(HR2.out.below hb3).more hb3.size;clear xD hg3 yb hr3)
  |(at_builtin;refine Ar rfl (.tmp 9) (.tmp 10) _ rfl w.heap.size 62 (.agg Al) 23 88 underlying50 CT rfl (by decide) _ n (P.L.flatMap sgc) rfl yM.out w3.heap.size A2 n2 c2 (l.flatMap sgc) rfl (by rw[AY sgc 23 l (Cc l),HN2.out]) hHS.out (fun u hu=>by obtain⟨s,_,hs⟩:=List.mem_flatMap.1 hu;exact s.one u hs) (by omega) (by unfold maxLen;omega) hb3.size ?_;intro v4 w4 xZ hg4 hEA;have hb4:ZN w w4:=BJ hb3 yM.out hg4;rw[<-Af]at xZ;obtain⟨A4,c4,rfl,hr4⟩:=Bj xZ;have hCY:=AA (JC A4 (n+n2) c4 (P.L++l) w4 (by rw[AF,HNn.out,HN2.out]) hr4 (HOk4.out w4 hb4) hsm);clear xZ hg4 hEA hr4)
  |fail)
 have hP4:=HP.out.below hb4;have HP4:=AA hP4;clear hP4 yM hHS y0;go_wp2_with fail
 refine hCY.out.mono ?_;rintro en w5 ⟨L,v5,rfl,hb5,xW,hEE,hDN⟩;have hbs:Bs<=w4.heap.size:=AG hBs hb4.size;have hP5:=HP4.out.below hb5;have y5:w5.cell? ⟨b,0,none⟩=some P.v:=hP5.blk.cell 0;have y6:w5.frozen? ⟨b,0,none⟩=false:=hP5.blk.frozen 0;obtain⟨A5,c5,rfl⟩:=Av xW;have hCh:=hb4.trans (hb5.mono hb4.size);have xx:Hid (w5.ownsRow Bs 62 23 (.slice A5 L.length c5) L.length (L.flatMap sgc)):=BE xW hbs;have HSg5:Hid (∀s∈L,Bo w5 Bs s):=fun s hs=>⟨(hEE s hs).1,BE (hEE s hs).2.1 hbs,(hEE s hs).2.2⟩
 have HCn:=AA hDN;have HP5:=AA hP5;clear xW hEE hDN hP5 hb5 hCY;go_wp2;go_end0;have hg6:w5.grownBy (w5.setCell ⟨b,0,none⟩ (.slice A5 L.length c5)) (some b):=Bl (p:=⟨b,0,none⟩) (Am w5 b) rfl _;have hB5:=HP5.out.blk;refine⟨_,L,rfl,⟨hB5.put 0 _,BR xx.out hg6 (.blk hB5 (by decide)),fun s hs=>(HSg5.out s hs).off hg6 (.blk hB5 (by decide)),BR HP5.out.dec hg6 (.blk hB5 (by decide))⟩,HCn.out,?_⟩;exact(Bu hCh).trans hg6
end
end Go.Proofs.YtadllffeoibelaaGreat
