/-
  Parts of the proof. No condition.
-/
import Derived.Test.YtadllffeoibelaaGreatS8
open Go.Proofs.Tryz
namespace Go.Proofs.YtadllffeoibelaaGreat
set_option maxRecDepth 100000
set_option maxHeartbeats 32000000
set_option linter.all false
section
open Go.RowKit
attribute [local go_sem ↓] Go.wp_at_zero Go.wp_at_succ Aq
attribute [local go_sem] BE AR AX AU
def Md(s:Nm)(h m level number:Nat)(w:World)(e:Ending)(w':World):Prop:=
 ∃g,e= .returned (FK g)/\Bb w' g 32 (Ek s level number)/\Bi s h m w'/\w.grownBy w' (some m)
theorem Ic{w w':World}{row:Option Nat}(h:Wx w w'):w.grownBy w' row:=⟨h.os,h.tape,h.output,h.size,fun i hi _=>h.block i hi⟩
theorem QE{w w1 w2:World}{row:Option Nat}{k:Nat}(h1:w.grownBy w1 row)(h2:w1.grownBy w2 (some k))(hk:w.heap.size<=k):w.grownBy w2 row:=
 ⟨h2.os.trans h1.os,h2.tape.trans h1.tape,h2.output.trans h1.output,AG h1.size h2.size,fun i hi hne=>(h2.block i (Nat.lt_of_lt_of_le hi h1.size) (by intro e;injection e with e;omega)).trans (h1.block i hi hne)⟩
theorem Rq(g:Nat)(W:World):(binOp .neq 75 (FK g) (.slice none 0 0)).run prog W= .ok (.bool true) W:=by first|rfl|kernel_rfl
theorem Ta(W:World):(binOp .neq 75 (.slice none 0 0) (.slice none 0 0)).run prog W= .ok (.bool false) W:=by first|rfl|kernel_rfl
theorem Rr(s:Nm)(h m level number g:Nat)(tl:List ((Int×Int)×Value))(w:World)(hB:Blk w h 152 (CH s m))(hM:C2 DM w m tl)(ha:BR ((level:Int),(number:Int)) tl=some (FK g)):Calls prog 92 #[.pointer (some ⟨h,0,none⟩),.int .i64 (level:Int),.int .i64 (number:Int)] w fun e w'=>e= .returned (FK g)/\w'=w:=by
 have c9:w.cell? ⟨h,9,none⟩=some (.map (some m)):=hB.cell 9;have hEH:(Instr.lookup 150 (.map (some m)) (.agg #[.int .i64 (level:Int),.int .i64 (number:Int)]) false).run prog w= .ok (FK g) w:=by
  have h1:=hM.look Pp underlying150 (.slice none 0 0) (by first|rfl|kernel_rfl) ((level:Int),(number:Int)) false;rw[ha]at h1;exact h1
 have hne:=Rq g w;clear hB hM ha;go_enter func92,ntmps92;go_wp2;go_ret;exact⟨rfl,rfl⟩
def Jp(D:Nat->Prop)(s:Nm)(h m:Nat)(w:World):Prop:=Blk w h 152 (CH s m)/\h≠m/\∃tl,C2 DM w m tl/\GZ s w tl/\∀a g,BR a tl=some (FK g)->D g
section
variable {D D':Nat->Prop}{s:Nm}{h m:Nat}{w w':World}
theorem Jp.key(hk:Jp D s h m w):Bi s h m w:=by
 obtain⟨h1,h2,tl,h3,h4,_⟩:=hk;exact⟨h1,h2,tl,h3,h4⟩
theorem Bi.toD(hk:Bi s h m w)(hD:∀g,D g):Jp D s h m w:=by
 obtain⟨h1,h2,tl,h3,h4⟩:=hk;exact⟨h1,h2,tl,h3,h4,fun _ g _=>hD g⟩
end
def Kz(D:Nat->Prop)(s:Nm)(h m level number:Nat)(w:World)(e:Ending)(w':World):Prop:=
 ∃g,e= .returned (FK g)/\Bb w' g 32 (Ek s level number)/\Jp D s h m w'/\w.grownBy w' (some m)
theorem QF(D:Nat->Prop)(s:Nm)(h m level number:Nat)(tl:List ((Int×Int)×Value))(w:World)(hl:level<=2)(hn:number<32)(hB:Blk w h 152 (CH s m))(hhm:h≠m)(hM:C2 DM w m tl)(hT:GZ s w tl)(hD:∀a g,BR a tl=some (FK g)->D g)(hDn:D w.heap.size)(ha:BR ((level:Int),(number:Int)) tl=none):Calls prog 92 #[.pointer (some ⟨h,0,none⟩),.int .i64 (level:Int),.int .i64 (number:Int)] w (Kz D s h m level number w):=by
 have c9:w.cell? ⟨h,9,none⟩=some (.map (some m)):=hB.cell 9;have hEH:(Instr.lookup 150 (.map (some m)) (.agg #[.int .i64 (level:Int),.int .i64 (number:Int)]) false).run prog w= .ok (.slice none 0 0) w:=by
  have h1:=hM.look Pp underlying150 (.slice none 0 0) (by first|rfl|kernel_rfl) ((level:Int),(number:Int)) false;rw[ha]at h1;exact h1
 have hne:=Ta w;obtain⟨Z,hZ⟩:=Wr (Array.replicate 256 (Value.int .u8 0));have hmk:∀W:World,(Instr.makeSlice 75 (.int .i64 32) (.int .i64 32)).run prog W= .ok (.slice (some ⟨W.heap.size,0,none⟩) 32 32) (W.alloc (.cells Z 24)):=fun W=>by rw[hZ];kernel_rfl
 have HZ:Hid (Z.size=8*32):=by rw[hZ];exact Array.size_replicate
 have HB:=AA hB;have HM:=AA hM;have HT:=AA hT;have HHM:=AA hhm;have HD:=AA hD;have HDn:=AA hDn;clear hZ hB hM hT ha hhm hD hDn;go_enter func92,ntmps92;go_upto_region 5 with fail
 clear hmk hEH hne c9;have hN:Bb (w.alloc (Obj.cells Z 24)) w.heap.size 32 []:=Bb.zero w Z 32 HZ.out;have hbW:Wx w (w.alloc (Obj.cells Z 24)):=(AC _ _).alloc (AB _) _;generalize (w.alloc (Obj.cells Z 24))=W at*;clear HZ;try go_frame
 go_wp2_with fail
 go_loopw [24] (fun i wr=>∃k:Nat,k<=32/\i= .int .i64 k/\Bb wr w.heap.size 32 ((List.range k).map (Im s level number))/\Wx w wr)
  (fun i _=>32-(intOf i).toNat)
 case atStart=>exact⟨0,by omega,rfl,hN,hbW⟩
 case round=>
  clear hN hbW;obtain⟨k,hk,rfl,hN,hb⟩:=hrel;by_cases hlt:k<32
  ·have e1:=Ey (Im s level number) k;have E1:=AA e1;clear e1;have E2:Hid (((List.range k).map (Im s level number)).length=k):=by show _=_;simp
   generalize (List.range k).map (Im s level number)=nl at*;obtain⟨y,hy⟩:=Ws (Im s level number k);obtain⟨x,hx⟩:=Ws (M8 s level number k);have e3:Sp x=y:=by rw[<-hx,<-hy];rfl
   have HS:Hid (Calls prog 140 #[.pointer (some ⟨h,0,none⟩),.int .i64 (level:Int),.int .i64 (number:Int),.int .i64 (k:Int)] wr (BW wr x)):=KX s x h m level number k wr (HB.out.below hb HB.out.lt) hl hn hlt hx;have HW:Hid (∀W,Calls prog 139 #[x.val] W (BW W y)):=fun W=>L6 x y W e3
   rw[hy]at E1;clear hx hy e3;go_wp2_with (first
    |(go_at_call 140;refine HS.out.mono ?_;rintro en w2 ⟨rfl,hb2⟩;have hN2:=hN.below hb2 hN.lt;have xL:=hb.trans (hb2.mono hb.size))
    |(go_at_call 139;refine(HW.out _).mono ?_;rintro en w3 ⟨rfl,hb3⟩;have hN3:=hN2.below hb3 hN2.lt;have xT:=xL.trans (hb3.mono xL.size))
    |(refine DQ rfl 24 (.tmp 35) (.tmp 34) rfl w.heap.size 32 k nl y rfl rfl hN3 E2.out hlt Ap ?_))
   intro w4 hN4 hg4 hs4;have xI:Wx w w4:=xT.grown hg4 xT.size (by rintro j ⟨⟩;omega);clear hN hb hb2 hN2 xL hb3 hN3 xT hg4 hs4 HW HS;go_wp2;go_roundw
   case rel=>exact⟨k+1,by omega,by go_num,by rw[E1.out];exact hN4,xI⟩
   case measure=>simp[intOf];omega
  ·obtain rfl:k=32:=by omega
   have HM2:Hid (C2 DM wr m tl):=HM.out.below hb HM.out.lt;have c9:wr.cell? ⟨h,9,none⟩=some (.map (some m)):=(HB.out.below hb HB.out.lt).cell 9;have hmlt:=HM.out.lt;have HN:=AA hN;clear hN;go_wp2_with (refine NA (enc:=DM) rfl 150 75 (.tmp 40) (.tmp 43) (.tmp 44) rfl m ((level:Int),(number:Int)) (FK w.heap.size) tl rfl rfl rfl HM2.out Pp underlying150 ?_;intro w5 hM5 hg5 hs5)
   go_ret;have hN5:Bb w5 w.heap.size 32 (Ek s level number):=HN.out.kept hg5 (by simp;omega);have hgr:w.grownBy w5 (some m):=(Ic hb).trans hg5;refine⟨w.heap.size,rfl,hN5,⟨HB.out.kept hgr (by simpa using HHM.out),HHM.out,_,hM5,fun a v hav=>?_,fun a g hav=>?_⟩,hgr⟩;rotate_left
   ·rw[Cs]at hav;split at hav
    ·injection hav with hav
     have:g=w.heap.size:=by simpa[FK]using hav.symm
     rw[this];exact HDn.out
    ·exact HD.out a g hav
   rw[Cs]at hav;split at hav
   ·rename_i hkk
    injection hav with hav
    exact⟨level,number,w.heap.size,hkk,hav.symm,hN5⟩
   ·obtain⟨a1,b1,g,h1,h2,h3⟩:=HT.out a v hav;refine⟨a1,b1,g,h1,h2,h3.kept hgr ?_⟩;intro e;injection e with e
    subst e;obtain⟨cur,hC,_⟩:=h3;obtain⟨es,cl,h5,_⟩:=HM.out;unfold Blk at hC;rw[hC]at h5;cases h5
theorem QG(D:Nat->Prop)(s:Nm)(h m level number:Nat)(w:World)(hk:Jp D s h m w)(hDn:D w.heap.size)(hl:level<=2)(hn:number<32):Calls prog 92 #[.pointer (some ⟨h,0,none⟩),.int .i64 (level:Int),.int .i64 (number:Int)] w (Kz D s h m level number w):=by
 obtain⟨hB,hhm,tl,hM,hT,hD⟩:=hk;cases ha:BR ((level:Int),(number:Int)) tl with
 |none=>exact QF D s h m level number tl w hl hn hB hhm hM hT hD hDn ha
 |some v=>
  obtain⟨a,b,g,h1,rfl,h3⟩:=hT _ _ ha;have e1:level=a:=by have:=congrArg Prod.fst h1;simp at this;omega
  have e2:number=b:=by have:=congrArg Prod.snd h1;simp at this;omega
  subst e1;subst e2;refine(Rr s h m level number g tl w hB hM ha).mono ?_;rintro e w' ⟨rfl,rfl⟩;exact⟨g,rfl,h3,⟨hB,hhm,tl,hM,hT,hD⟩,Al _ _⟩
theorem Me(s:Nm)(h m level number:Nat)(w:World)(hk:Bi s h m w)(hl:level<=2)(hn:number<32):Calls prog 92 #[.pointer (some ⟨h,0,none⟩),.int .i64 (level:Int),.int .i64 (number:Int)] w (Md s h m level number w):=
 (QG (fun _=>True) s h m level number w (hk.toD fun _=>trivial) trivial hl hn).mono fun _ _ ⟨g,h1,h2,h3,h4⟩=>⟨g,h1,h2,h3.key,h4⟩
structure KFr (base m:Nat)(w w':World):Prop where
 os:w'.os=w.os
 tape:w'.tape=w.tape
 output:w'.output=w.output
 size:w.heap.size<=w'.heap.size
 block:∀i,i<base->i≠m->w'.heap[i]? =w.heap[i]?
theorem KFr.trans{base m:Nat}{w w1 w2:World}(h:KFr base m w w1)(h':KFr base m w1 w2):KFr base m w w2:=
 ⟨h'.os.trans h.os,h'.tape.trans h.tape,h'.output.trans h.output,AG h.size h'.size,fun i hi hm=>(h'.block i hi hm).trans (h.block i hi hm)⟩
theorem KFr.grown{base m:Nat}{w w':World}(h:w.grownBy w' (some m))(hb:base<=w.heap.size):KFr base m w w':=
 ⟨h.os,h.tape,h.output,h.size,fun i hi hm=>h.block i (Nat.lt_of_lt_of_le hi hb) (by simpa using hm)⟩
theorem KFr.below{base m B':Nat}{w w':World}(h:Below B' w w')(hb:base<=B'):KFr base m w w':=
 ⟨h.os,h.tape,h.output,h.size,fun i hi _=>h.block i (Nat.lt_of_lt_of_le hi hb)⟩
theorem KFr.own{base m e size n:Nat}{w w':World}{v:Value}{xs:List Value}(h:w.ownsRow base e size v n xs)(hg:w.grownBy w' v.ownBlock)(hb:base<=w.heap.size):KFr base m w w':=
 ⟨hg.os,hg.tape,hg.output,hg.size,fun i hi _=>hg.block i (Nat.lt_of_lt_of_le hi hb) (fun e=>by have:=(h.lt _ e.symm).1;omega)⟩
theorem KFr.all{m:Nat}{w w':World}(h:KFr w.heap.size m w w'):w.grownBy w' (some m):=
 ⟨h.os,h.tape,h.output,h.size,fun i hi hm=>h.block i hi (fun e=>hm (by rw[e]))⟩
theorem Ov{s:Nm}{h m base e size n:Nat}{w:World}{v:Value}{xs:List Value}(hk:Bi s h m w)(ho:w.ownsRow base e size v n xs):v.ownBlock≠some m:=by
 rcases ho.2 with⟨rfl,_⟩|⟨g,cap,cur,rfl,_,hh,_⟩
 ·intro e;cases e
 ·intro he;have he':g=m:=by simpa[Value.ownBlock]using he
  subst he';obtain⟨_,_,tl,⟨es,c,h5,_⟩,_⟩:=hk;rw[hh]at h5;cases h5
def Jq(s:Nm)(h m base n:Nat)(xs:List Value)(p:List UInt8)(w:World)(e:Ending)(w':World):Prop:=
 ∃A c,e= .returned (.slice A (n+184) c)/\w'.ownsRow base 5 1 (.slice A (n+184) c) (n+184) (xs++p.map B)/\Bi s h m w'/\KFr base m w w'
theorem Iw(s nm:Nm)(h m level number j base n c0:Nat)(A0:Option Addr)(xs:List Value)(w:World)(hk:Bi s h m w)(xB:w.ownsRow base 5 1 (.slice A0 n c0) n xs)(yJ:base<=w.heap.size)(hl:level<=2)(hn:number<32)(hj:j<32)(hn0:n<=1000):Calls prog 164 #[.pointer (some ⟨h,0,none⟩),.slice A0 n c0,.int .i64 (level:Int),.int .i64 (number:Int),.int .i64 (j:Int),nm.val] w (Jq s h m base n xs (IQ s level number j nm) w):=by
 obtain⟨i0,hi,hz0,hz1,hz2⟩:=info_parts Dj;obtain⟨W,hW⟩:=Wr (w.alloc (Obj.cells nm.cells 24));have hbW:Wx w W:=by rw[hW];exact(AC _ _).alloc (AB _) _
 have hkW:=hk.below hbW;have hX:Blk W w.heap.size 24 nm.cells:=by rw[hW];exact Blk.new w _ _
 have hC0:=BP xB hbW (AB _);have HT:=AA (Me s h m level number W hkW hl hn);have HOM:=AA (Ov hkW hC0);have hml:m<w.heap.size:=by obtain⟨_,_,tl,hM,_⟩:=hk;exact hM.lt
 have hne:w.heap.size≠m:=by omega
 have HPa:Hid (∀V g,Bb V g 32 (Ek s level number)->Calls prog 219 #[FK g,.int .i64 (j:Int)] V (M9 V 5 (GF 5 j (Ek s level number)))):=fun V g hN=>Sv j _ g 0 32 V (LM _ _ _) (by omega) (by unfold maxLen;omega) hj hN.rd
 obtain⟨x,hx⟩:=Ws (M8 s level number j);have HSd:Hid (∀V,Bi s h m V->Calls prog 140 #[.pointer (some ⟨h,0,none⟩),.int .i64 (level:Int),.int .i64 (number:Int),.int .i64 (j:Int)] V (BW V x)):=fun V hV=>KX s x h m level number j V hV.1 hl hn hj hx
 obtain⟨os,hos⟩:=Wr (KT x nm);have HOs:Hid (∀V,Calls prog 220 #[x.val,nm.val] V (K7 V 18 os)):=fun V=>by rw[hos];exact Qn x nm V
 have HOl:Hid (os.length=18):=by rw[hos];exact KU x nm
 obtain⟨pa,hpa⟩:=Wr (GF 5 j (Ek s level number));have HPl:Hid (pa.length=5):=by rw[hpa];exact Dn 5 j _
 rw[<-hpa]at HPa;have hEI:IQ s level number j nm=(os++pa).flatMap Nm.bytes:=by rw[IQ,hx,hos,hpa]
 obtain⟨nl,hnl⟩:=Wr (os++pa);rw[hEI,<-hnl];have HNq:=AA hnl;clear hEI hpa hos hx hk xB hkW hnl;obtain⟨q,hq⟩:=Wr w.heap.size;rw[<-hq]at hX hne;have hKF:KFr base m w W:=KFr.below hbW yJ;have hbq:base<=q:=by omega
 have hDm:base<=W.heap.size:=AG yJ hbW.size;go_enter func164,ntmps164;go_upto_region 1 with fail
 rw[<-hW,<-hq];clear hW hq yJ hbW;go_upto_region 2 with(first
  |(go_at_call 92;refine HT.out.mono ?_;rintro en w3 ⟨g,rfl,hN3,hk3,hg3⟩;have hX3:=hX.kept hg3 (by simpa using hne);have xC:=hC0.kept hg3 (.inr HOM.out);have hF3:=hKF.trans (KFr.grown hg3 hDm))
  |(go_at_call 219;refine(HPa.out _ _ hN3).mono ?_;rintro en w4 ⟨A4,c4,rfl,hEJ,hb4⟩;have hX4:=hX3.below hb4 hX3.lt;have xX:=BP xC hb4 (AB _);have hk4:=hk3.below hb4;have hF4:=hF3.trans (KFr.below hb4 (AG hDm hg3.size))))
 have hs4:base<=w4.heap.size:=AG hDm (AG hg3.size hb4.size);clear hN3 hk3 hg3 hX3 xC hF3 hb4 hC0 hX hKF HT HPa hml hDm;try go_frame
 have HP4:Hid (Rd w4 w4.heap.size A4 (pa.flatMap nmc)):=Rd.of_own hEJ;clear hEJ;obtain⟨b4,o4,rfl,_⟩:=JM HP4.out (by rw[HPl.out];omega);have x4:AK w4 q 0 8=some nm.cells:=hX4.row 8 rfl;have HX4:=AA hX4;have HK4:=AA hk4;have HO4:=AA xX;clear hX4 hk4 xX;have hb0:Wx w4 w4:=AC _ _;refine rgD (fun w'=>AK w' q 0 8=some nm.cells) (x4) fun _=>?_
 iterate 4 (refine tkA ?_;go_frame)
 refine tkD 31 5 ?_;go_frame;refine tkD 33 7 ?_;go_frame;refine tkD 36 10 ?_;go_frame;refine rd1 4 fun K hK=>?_
 go_simp;refine(HSd.out _ HK4.out.drew).mono ?_;rintro en w5 ⟨rfl,hb5⟩;have xa:=hb0.drew.trans (hb5.mono (AB _));go_wp2_with fail
 refine hK.out _ _ (BC x4 xa HX4.out.lt) (fun _=>?_);clear hK K;try go_frame
 refine rd1 6 fun K hK=>?_
 go_simp;refine(HOs.out _).mono ?_;rintro en w6 ⟨g6,rfl,hN6,hb6⟩;have xx:=xa.trans (hb6.mono xa.size);go_wp2_with fail
 refine hK.out _ _ (BC x4 xx HX4.out.lt) (fun _=>?_);clear hK K;try go_frame
 refine rd1 8 fun K hK=>?_
 rw[if_pos (by rfl)];refine DZ _ (some 34) rfl (.tmp 32) (.tmp 33) _ (by rfl) 24 i0 (Nm.val ⟨0,0,0,0,0,0,0,0⟩) 8 8 underlying75 hi hz0 hz1 hz2 rfl (by decide) (some ⟨g6,0,none⟩) 18 18 (os.flatMap nmc) (by rfl) (fun e=>by cases e) (by rw[AY nmc 8 os (Cm os),HOl.out]) ?ah ⟨b4,o4,none⟩ 5 c4 (pa.flatMap nmc) (by rfl) (by rw[AY nmc 8 pa (Cm pa),HPl.out]) ?ac (fun u hu=>FC hu) (by omega) (by unfold maxLen;omega) (by omega) ?_
 case ah=>
  intro p hp j u hu;injection hp with hp;subst hp
  rcases(hN6).rd with h0|⟨b',o',e,_,hc⟩
  ·rw[h0]at hu;simp at hu
  ·injection e with e;injection e with e1 e2;subst e1;subst e2
   rw[Addr.add_mid];exact hc j u hu
 case ac=>
  intro j u hu;rcases HP4.out.below xx with h0|⟨b',o',e,_,hc⟩
  ·rw[h0]at hu;simp at hu
  ·injection e with e;injection e with e1 e2;subst e1;subst e2
   rw[Addr.add_mid];exact hc j u hu
 intro v7 w7 xE hg7;obtain⟨A7,c7,hv7⟩:=BD xE;subst hv7;have xc:Wx w4 w7:=Di xx hg7;refine hK.out _ _ (BC x4 xc HX4.out.lt) (fun _=>?_);clear hK K;try go_frame
 refine tkD 35 9 ?_;go_frame;refine dnD ?_;have HK7:=AA (HK4.out.below xc);have hAi:=BP HO4.out xc (AB _);have hF7:=hF4.trans (KFr.below (m:=m) xc hs4);have hs7:base<=w7.heap.size:=AG hs4 xc.size;rw[<-Af,<-HNq.out]at xE;have HNl:Hid (nl.length=23):=by show nl.length=23;rw[HNq.out,AI,HOl.out,HPl.out]
 obtain⟨b7,o7,rfl,hb7lt⟩:=JM (Rd.of_own xE) (by rw[HNl.out];omega);obtain⟨cur,xA⟩:=Tw xE;have HCu:Hid (∀k x,nl[k]? =some x->∀V,Blk V b7 24 cur->AK V b7 (o7+k*8) 8=some x.cells):=fun k x hkx V hV=>by
  refine By (fun j u hu=>?_) rfl;have h1:=Rd.name (Rd.of_own xE) hkx;obtain⟨b',o',e,_,hc⟩:=h1;injection e with e;injection e with e1 e2;subst e1;subst e2
  have h2:=hc j u (by simpa using hu);rw[xA.cell]at h2;rw[hV.cell];exact h2
 clear HNq xE hg7 hN6 xc xx xa hb5 hb6 x4 HX4 HK4 HO4 HSd HOs HP4 hF4 hs4 hb0 HOl HPl;try go_frame
 go_wp2_with fail
 go_loopw [1,36] (fun v i wr=>∃k:Nat,k<=23/\i= .int .i64 k/\wr.ownsRow base 5 1 v (n+8*k) (xs++((nl.take k).flatMap Nm.bytes).map B)/\Blk wr b7 24 cur/\Bi s h m wr/\KFr base m w wr/\base<=wr.heap.size)
  (fun _ i _=>23-(intOf i).toNat)
 case atStart=>exact⟨0,by omega,rfl,by simpa using hAi,xA,HK7.out,hF7,hs7⟩
 case round=>
  clear hAi xA hF7 hs7 HK7;obtain⟨k,hk,rfl,xB,hC,hkk,hF,hs⟩:=hrel;by_cases hlt:k<23
  ·obtain⟨y,hy⟩:∃y,nl[k]? =some y:=⟨_,AE (by rw[HNl.out];exact hlt)⟩;have e1:=PF nl k y hy;have E1:=AA e1;clear e1;have xk:AK wr b7 (o7+k*8) 8=some y.cells:=HCu.out k y hy wr hC;have ltC:=hC.lt;have HKk:=AA hkk;clear hkk hy;generalize List.flatMap Nm.bytes (nl.take k)=bs at*;have i1:(0:Int)<=(k:Int):=by omega
   have i2:(k:Int)<23:=by omega
   go_wp2_with (refine AJ rfl 24 (.tmp 16) (.tmp 39) rfl wr.heap.size _ rfl rfl 24 _ (Blk.new wr _ _) rfl Ap (fun u hu=>GG y hu) ?_)
   intro w2 hV2 hg2 hs2;have xG:=(xB.alloc _).kept hg2 (PG xB);have hC2:=(hC.alloc _).kept hg2 (by simp;omega);have hb2:Wx wr w2:=((AC _ _).alloc (AB _) _).grown hg2 (by simp) (by rintro j ⟨⟩;exact AB _);have HK2:=AA (HKk.out.below hb2);have hF2:=hF.trans (KFr.below (m:=m) hb2 hs);have hDo:base<=w2.heap.size:=AG hs hb2.size;clear xB hC xk hb2 hF hs hg2 hs2 HKk;go_wp2_with (at_builtin;refine Ar rfl (.tmp 40) (.tmp 41) _ rfl base 5 (.int .u8 0) 1 1 underlying60 Bz rfl (by decide) _ (n+8*k) _ rfl xG w2.heap.size _ 8 8 (y.bytes.map B) rfl rfl ?r1 ?r2 ?r3 ?r4 ?r5 ?_)
   case r1=>
    have h:=Rd.of_blk hV2 0 8;simpa[Nm.bytes]using h
   case r2=>exact fun u hu=>B7 hu
   case r3=>omega
   case r4=>unfold maxLen;omega
   case r5=>exact hDo
   intro v3 w3 xC hg3 zO;have hC3:=hC2.kept hg3 (CO xG hC2 (by decide));have HK3:=AA (HK2.out.own xG hg3);have hF3:=hF2.trans (KFr.own (m:=m) xG hg3 hDo);have hs3:base<=w3.heap.size:=AG hDo hg3.size;clear xG hC2 hV2 hg3 zO HK2 hF2 hDo;go_wp2;go_roundw
   case rel=>exact⟨_,_,_,_,_,_,_,_,_,_,⟨k+1,by omega,by go_num,by rw[E1.out,Ad,show n+8*(k+1)=n+8*k+8 from by omega];exact xC,hC3,HK3.out,hF3,hs3⟩,rfl⟩
   case measure=>simp[intOf];omega
  ·obtain rfl:k=23:=by omega
   rw[AT (by rw[HNl.out];omega)]at xB;obtain⟨A8,c8,rfl⟩:=BD xB;go_wp2;go_ret;exact⟨A8,c8,rfl,xB,hkk,hF⟩
def Lg(s:Nm)(h m leaf:Nat)(nm:Nm)(w:World)(e:Ending)(w':World):Prop:=
 ∃A c,e= .returned (.tuple #[.slice A 370 c,.bool true])/\w'.ownsRow w.heap.size 5 1 (.slice A 370 c) 370 ((Ex s leaf nm).map B)/\Bi s h m w'/\w.grownBy w' (some m)
theorem Mf{s:Nm}{h m:Nat}{w:World}(hk:Bi s h m w):m<w.heap.size:=by obtain⟨_,_,tl,hM,_⟩:=hk;exact hM.lt
theorem QH(s nm:Nm)(h m leaf:Nat)(w:World)(hk:Bi s h m w)(hlf:leaf<1024):Calls prog 112 #[.pointer (some ⟨h,0,none⟩),.int .i64 (leaf:Int),nm.val] w (Lg s h m leaf nm w):=by
 obtain⟨W,hW⟩:=Wr (w.alloc (Obj.cells nm.cells 24));have hbW:Wx w W:=by rw[hW];exact(AC _ _).alloc (AB _) _
 have hkW:=hk.below hbW;have hX:Blk W w.heap.size 24 nm.cells:=by rw[hW];exact Blk.new w _ _
 have c8:W.cell? ⟨h,8,none⟩=some (I 2):=hkW.1.cell 8;have hGi:=AA (LL s h m W hkW.1);obtain⟨b0,hb0⟩:=Wr (Be leaf 1);obtain⟨b1,hb1⟩:=Wr (Be leaf 0);have HA:Hid (Calls prog 80 #[.slice none 0 0,.int .u64 (leaf:Int),.int .i64 2] W (CX W 5 1 2 ([b0,b1].map B))):=by
  have h:=Jl none 0 0 leaf [] W rfl Rd.nil (fun u hu=>by cases hu) (by omega);rw[hb0,hb1];exact h
 obtain⟨rt,hrt⟩:=Wr (GE 5 (Ek s 1 (leaf/32)));obtain⟨p1,hp1⟩:=Wr (IQ s 1 (leaf/32) (leaf%32) nm);obtain⟨p2,hp2⟩:=Wr (IQ s 2 0 (leaf/32) rt);have zr:Ex s leaf nm=[b0,b1]++p1++p2:=by
  rw[Ex,hp2,hrt,hp1,hb0,hb1];simp only[Be,Nat.pow_one,Nat.pow_zero,Nat.div_one]
 obtain⟨sg,hsg⟩:=Wr (Ex s leaf nm);have HSg:Hid (sg=[b0,b1]++p1++p2):=by unfold Hid;rw[hsg,zr]
 have H1:Hid (∀A c V,Bi s h m V->V.ownsRow w.heap.size 5 1 (.slice A 2 c) 2 ([b0,b1].map B)->w.heap.size<=V.heap.size->Calls prog 164 #[.pointer (some ⟨h,0,none⟩),.slice A 2 c,.int .i64 1,.int .i64 ((leaf:Int)/32),.int .i64 ((leaf:Int)%32),nm.val] V (Jq s h m w.heap.size 2 ([b0,b1].map B) p1 V)):=fun A c V hV ho hs=>by
  rw[hp1];exact Iw s nm h m 1 (leaf/32) (leaf%32) w.heap.size 2 c A _ V hV ho hs (by omega) (by omega) (Nat.mod_lt _ (by omega)) (by omega)
 have H2:Hid (∀A c V,Bi s h m V->V.ownsRow w.heap.size 5 1 (.slice A 186 c) 186 ([b0,b1].map B++p1.map B)->w.heap.size<=V.heap.size->Calls prog 164 #[.pointer (some ⟨h,0,none⟩),.slice A 186 c,.int .i64 2,.int .i64 0,.int .i64 ((leaf:Int)/32),rt.val] V (Jq s h m w.heap.size 186 ([b0,b1].map B++p1.map B) p2 V)):=fun A c V hV ho hs=>by
  rw[hp2];exact Iw s rt h m 2 0 (leaf/32) w.heap.size 186 c A _ V hV ho hs (by omega) (by omega) (by omega) (by omega)
 have HTr:Hid (∀V,Bi s h m V->Calls prog 92 #[.pointer (some ⟨h,0,none⟩),.int .i64 1,.int .i64 ((leaf:Int)/32)] V (Md s h m 1 (leaf/32) V)):=fun V hV=>Me s h m 1 (leaf/32) V hV (by omega) (by omega)
 have HRt:Hid (∀V g,Bb V g 32 (Ek s 1 (leaf/32))->Calls prog 91 #[FK g] V (BW V rt)):=fun V g hN=>by
  rw[hrt];exact FJ 5 (Ek s 1 (leaf/32)) _ 32 32 V (LM _ _ _) rfl (by omega) (by omega) (by unfold maxLen;omega) hN.rd
 have d0:decide ((leaf:Int)<0)=false:=by simp
 have d1:decide ((1024:Int)<=(leaf:Int))=false:=by simp;omega
 have hml:=Mf hk;have HK:=AA hkW;have HBW:=AA hbW;have HX:=AA hX;unfold Lg;rw[<-hsg];clear zr hsg hp1 hp2 hrt hb0 hb1 hk hkW hbW hX;obtain⟨q,hq⟩:=Wr w.heap.size;rw[<-hq]at HX;have HQ:Hid (q=w.heap.size):=hq;go_enter func112,ntmps112;go_upto_region 1 with fail
 rw[<-hW,<-hq];clear hW hq;go_upto_region 3 with(first
  |(go_at_call 90;refine hGi.out.mono ?_;rintro en w2 ⟨rfl,hw2⟩;subst hw2)
  |(go_at_call 78;refine(Fz _).mono ?_;rintro en w3 ⟨rfl,hw3⟩;subst hw3))
 try go_frame
 go_upto_region 4 with(go_at_call 80;refine HA.out.mono ?_;rintro en w4 ⟨A4,c4,rfl,xX,hb4⟩)
 have x4:AK w4 q 0 8=some nm.cells:=(HX.out.below hb4 HX.out.lt).row 8 rfl;have HK4:=AA (HK.out.below hb4);have HO4:=AA (BS xX HBW.out.size);have HB4:=AA (HBW.out.trans (hb4.mono HBW.out.size));clear xX hb4 HX HA hGi HK;try go_frame
 go_upto_region 5 with(go_at_call 164;refine(H1.out _ _ _ HK4.out HO4.out HB4.out.size).mono ?_;rintro en w5 ⟨A5,c5,rfl,xW,hk5,hf5⟩)
 have c85:w5.cell? ⟨h,8,none⟩=some (I 2):=hk5.1.cell 8;have HK5:=AA hk5;have HO5:=AA xW;have HF5:=AA ((KFr.below (m:=m) HB4.out (AB _)).trans hf5);clear xW hk5 hf5 x4 HK4 HO4 HB4 H1;try go_frame
 go_upto_region 7 with(first
  |(go_at_call 92;refine(HTr.out _ HK5.out).mono ?_;rintro en w6 ⟨g,rfl,hN6,hk6,hg6⟩)
  |(go_at_call 91;refine(HRt.out _ _ hN6).mono ?_;rintro en w7 ⟨rfl,hb7⟩;have hk7:=hk6.below hb7;have xE:=BP (HO5.out.kept hg6 (.inr (Ov HK5.out HO5.out))) hb7 (AB _);have hs5:=HF5.out.size;have hF7:=HF5.out.trans ((KFr.grown hg6 hs5).trans (KFr.below (m:=m) hb7 (AG hs5 hg6.size))))
  |(go_at_call 164;refine(H2.out _ _ _ hk7 xE hF7.size).mono ?_;rintro en w8 ⟨A8,c8,rfl,xV,hk8,hf8⟩))
 try go_frame
 go_wp2;go_ret2;rw[HQ.out];exact⟨A8,c8,rfl,by rw[HSg.out,Ad,Ad];exact xV,hk8,(hF7.trans hf8).all⟩
theorem L5.at{s:Nm}{w w':World}{e:Ending}(h:L5 w s e w'):∃hp m,e= .returned (.pointer (some ⟨hp,0,none⟩))/\w.heap.size<=m/\Bi s hp m w'/\Wx w w':=by
 obtain⟨hp,m,rfl,_,hm,hne,hB,hM,hb⟩:=h;exact⟨hp,m,rfl,hm,⟨hB,hne,[],⟨#[],0,hM,rfl⟩,fun k v hk=>by cases hk⟩,hb⟩
end
section
open Go.RowKit
attribute [local go_sem ↓] Go.wp_at_zero Go.wp_at_succ Aq Au Av Aw
attribute [local go_sem] BE BL BM BN AR AX AU
theorem Rs(s nm:Nm)(h m:Nat)(leaf:Int)(w:World)(hB:Blk w h 152 (CH s m))(hl:leaf<0∨1024<=leaf):Calls prog 112 #[.pointer (some ⟨h,0,none⟩),.int .i64 leaf,nm.val] w (Rj w):=by
 have HB:=AA hB;have hW:Blk (w.alloc (.cells nm.cells 24)) h 152 (CH s m):=hB.alloc _;have c8:(w.alloc (.cells nm.cells 24)).cell? ⟨h,8,none⟩=some (I 2):=hW.cell 8;have HR:=AA (LL s h m _ hW);clear hB hW;by_cases h0:leaf<0
 ·have d0:decide (leaf<0)=true:=by simp;omega
  go_enter func112,ntmps112;go_wp2_with (go_at_call 90;refine HR.out.mono ?_;rintro en w2 ⟨rfl,rfl⟩)
  go_ret2;exact⟨rfl,(AC _ _).alloc (AB _) _⟩
 ·have d0:decide (leaf<0)=false:=by simp;omega
  have d1:decide (1024<=leaf)=true:=by simp;omega
  go_enter func112,ntmps112;go_wp2_with ((first
   |(go_at_call 90;refine HR.out.mono ?_;rintro en w2 ⟨rfl,rfl⟩)
   |(go_at_call 78;refine(Fz _).mono ?_;rintro en w3 ⟨rfl,rfl⟩)))
  go_ret2;exact⟨rfl,(AC _ _).alloc (AB _) _⟩
def WG(w:World)(e:Ending)(w':World):Prop:=e= .returned (.tuple #[.agg BI,.bool false])/\Wx w w'
theorem Mg(s:Nm)(h m:Nat)(leaf:Int)(v:Vt)(w:World)(hv:v.ok)(hB:Blk w h 152 (CH s m))(hl:leaf<0∨1024<=leaf)(hy:AW v):Calls prog 77 #[.pointer (some ⟨h,0,none⟩),.int .i64 leaf,v.val] w (WG w):=by
 obtain⟨w1,hw1⟩:=Wr ((w.alloc (.cells v.cells 46)).alloc (.cells BI 62));have hbw:Wx w w1:=by rw[hw1];exact((AC _ _).alloc (AB _) _).alloc (by simp) _
 have HBk:Hid (Blk w1 h 152 (CH s m)):=by unfold Hid;rw[hw1];exact(hB.alloc _).alloc _
 have HBv:Hid (Blk w1 w.heap.size 46 v.cells):=by unfold Hid;rw[hw1];exact(Blk.new w _ _).alloc _
 have HBr:Hid (Blk w1 (w.heap.size+1) 62 BI):=by
  unfold Hid;rw[hw1];have:=Blk.new (w.alloc (.cells v.cells 46)) 62 BI;simpa using this
 have HV:Hid (∀W,Calls prog 49 #[v.val] W fun e w'=>e= .returned (.bool true)/\Wx W w'):=fun W=>IZ v W hv hy
 have HNm:=AA (fun W=>K8 v W hv hy);have HS:=AA (fun(nm:Nm) (W:World) (hW:Blk W h 152 (CH s m))=>Rs s nm h m leaf W hW hl);have hs1:w1.heap.size=w.heap.size+2:=by rw[hw1];simp
 have hx:AK w1 w.heap.size 0 22=some v.cells:=HBv.out.row 22 rfl;have hlt:h<w1.heap.size:=HBk.out.lt;clear hB hl hy hv;go_enter func77,ntmps77;go_upto_region 1 with fail
 rw[<-hw1];clear hw1;go_wp2_with ((first
  |(go_at_call 49;refine(HV.out _).mono ?_;rintro en w2 ⟨rfl,hb2⟩;have hx2:AK w2 w.heap.size 0 22=some v.cells:=(HBv.out.below hb2 HBv.out.lt).row 22 rfl)
  |(go_at_call 113;refine(HNm.out _).mono ?_;rintro en w3 ⟨rfl,hb3⟩)
  |(go_at_call 112;refine(HS.out _ _ ((HBk.out.below hb2 HBk.out.lt).below hb3 (HBk.out.below hb2 HBk.out.lt).lt)).mono ?_;rintro en w4 ⟨rfl,hb4⟩;have hGj:=hb2.trans ((hb3.trans (hb4.mono hb3.size)).mono hb2.size);have hEo:=AA (HBr.out.below hGj HBr.out.lt))
  |(refine AJ rfl 62 (.tmp 6) (.tmp 24) rfl (w.heap.size+1) BI rfl rfl 62 BI hEo.out rfl DT (fun u hu=>OI hu) ?_;intro w5 hR5 hg5 yi)))
 have xI:=hbw.trans (hGj.mono hbw.size);exact bodyPost_ret (Ac (g:=w.heap.size+1) (cs:=BI) rfl _ _ _ _ _ rfl hR5 underlying62 rfl DT) rfl ⟨rfl,xI.grown hg5 xI.size (by rintro j ⟨⟩;omega)⟩
theorem Tb{o:Oper}{a:Act}(v:Vt)(sig:List UInt8)(A:Option Addr)(c:Nat)(s t:Operand)(ho:o.op= .build 62 #[(0,s),(1,t)])(hs:a.eval s= .agg v.cells)(ht:a.eval t= .slice A sig.length c)(w:World):(execOp a.eval o).run prog w= .ok (.value (Sg.mk v sig A c).val) w:=by
 unfold Sg.val;rw[OJ];unfold execOp;rw[ho];simp only[List.map_toArray,List.map_cons,List.map_nil,hs,ht];go_simp
def SgG(base:Nat)(v:Vt)(sig:List UInt8)(cs:Array Value)(w:World):Prop:=∃A c,cs=(Sg.mk v sig A c).cells/\w.ownsRow base 5 1 (.slice A sig.length c) sig.length (sig.map B)
def U5(G:Array Value->World->Prop)(ok:Bool)(m:Nat)(w:World)(e:Ending)(w':World):Prop:=
 ∃cs,e= .returned (.tuple #[.agg cs,.bool ok])/\G cs w'/\w.grownBy w' (some m)
theorem Kd(s:Nm)(h m leaf base:Nat)(v:Vt)(w:World)(hv:v.ok)(hk:Bi s h m w)(hl:leaf<1024)(hy:AW v)(yJ:base<=w.heap.size):Calls prog 77 #[.pointer (some ⟨h,0,none⟩),.int .i64 (leaf:Int),v.val] w fun e w'=>U5 (SgG base v (Ex s leaf (Dx v))) true m w e w'/\Bi s h m w':=by
 obtain⟨w1,hw1⟩:=Wr ((w.alloc (.cells v.cells 46)).alloc (.cells BI 62));have hbw:Wx w w1:=by rw[hw1];exact((AC _ _).alloc (AB _) _).alloc (by simp) _
 have HK1:=AA (hk.below hbw);have hml:=Mf hk;have HBv:Hid (Blk w1 w.heap.size 46 v.cells):=by unfold Hid;rw[hw1];exact(Blk.new w _ _).alloc _
 have HBr:Hid (Blk w1 (w.heap.size+1) 62 BI):=by
  unfold Hid;rw[hw1];have:=Blk.new (w.alloc (.cells v.cells 46)) 62 BI;simpa using this
 have HV:Hid (∀W,Calls prog 49 #[v.val] W fun e w'=>e= .returned (.bool true)/\Wx W w'):=fun W=>IZ v W hv hy
 have HNm:=AA (fun W=>K8 v W hv hy);have HS:=AA (fun(nm:Nm) (W:World) (hW:Bi s h m W)=>QH s nm h m leaf W hW hl);have hx:AK w1 w.heap.size 0 22=some v.cells:=HBv.out.row 22 rfl;obtain⟨q,hq⟩:=Wr w.heap.size;obtain⟨r,hr⟩:=Wr (w.heap.size+1);rw[<-hq]at HBv hx;rw[<-hr]at HBr;have hqm:q≠m:=by omega
 have hrm:r≠m:=by omega
 have hqr:q≠r:=by omega
 have HW:Hid (w.heap.size<=r):=by unfold Hid;omega
 obtain⟨nm,hnm⟩:=Wr (Dx v);rw[<-hnm]at HNm ⊢;have HS2:=AA (HS.out nm);obtain⟨sg,hsg⟩:=Wr (Ex s leaf nm);have HSg:Hid (sg.length=370):=by unfold Hid;rw[hsg];exact KV _ _ _
 have HPo:Hid (∀W e w',Lg s h m leaf nm W e w'->∃A c,e= .returned (.tuple #[.slice A 370 c,.bool true])/\w'.ownsRow W.heap.size 5 1 (.slice A 370 c) 370 (sg.map B)/\Bi s h m w'/\W.grownBy w' (some m)):=fun W e w' hp=>by rw[hsg];exact hp
 rw[<-hsg];clear hk hy hv hnm hsg hl HS;go_enter func77,ntmps77;go_upto_region 1 with fail
 rw[<-hw1,<-hr,<-hq];clear hw1 hq hr;go_upto_region 4 with(first
  |(go_at_call 49;refine(HV.out _).mono ?_;rintro en w2 ⟨rfl,hb2⟩;have hx2:AK w2 q 0 22=some v.cells:=(HBv.out.below hb2 HBv.out.lt).row 22 rfl)
  |(go_at_call 113;refine(HNm.out _).mono ?_;rintro en w3 ⟨rfl,hb3⟩;have xj:=hb2.trans (hb3.mono hb2.size))
  |(go_at_call 112;refine(HS2.out _ (HK1.out.below xj)).mono ?_;rintro en w4 h4;obtain⟨A4,c4,rfl,xX,hk4,hg4⟩:=HPo.out _ _ _ h4;clear h4))
 have hgr:=(Ic (row:=some m) hbw).trans ((Ic xj).trans hg4);have x4:AK w4 q 0 22=some v.cells:=((HBv.out.below xj HBv.out.lt).kept hg4 (by simpa using hqm)).row 22 rfl;have HR4:=AA ((HBr.out.below xj HBr.out.lt).kept hg4 (by simpa using hrm));have hb3s:base<=w3.heap.size:=AG yJ (AG hbw.size xj.size);have HO4:=AA (BS xX hb3s);have HKA:=AA hk4;clear xX hk4 hg4 hx2 hb2 hb3 xj hx HBv HBr HK1 HV HNm HS2 HPo hb3s;try go_frame
 go_wp2_with (first
  |(refine Great.wpList_readTo rfl (some 27) rfl (Sg.mk v sg A4 c4).val (Tb v sg A4 c4 (.tmp 25) (.tmp 26) rfl rfl (by rw[HSg.out];rfl) _) ?_)
  |(refine AJ rfl 62 (.tmp 6) (.tmp 27) rfl r (Sg.mk v sg A4 c4).cells rfl rfl 62 BI HR4.out (by rw[Sg.size_cells];rfl) (by rw[Sg.size_cells];exact DT) (fun u hu=>Sd _ hu) ?_;intro w5 hR5 hg5 yi))
 refine bodyPost_ret (Ac (g:=r) (cs:=(Sg.mk v sg A4 c4).cells) rfl _ _ _ _ _ rfl hR5 underlying62 rfl (by rw[Sg.size_cells];exact DT)) rfl ⟨⟨_,rfl,⟨A4,c4,rfl,?_⟩,QE hgr hg5 HW.out⟩,HKA.out.far HR4.out (by decide) (by decide) hg5⟩;rw[HSg.out];exact HO4.out.kept hg5 (.inr fun e=>CO HO4.out HR4.out (by decide) e.symm)
theorem Lh(p:Option Addr)(leaf:Int)(v:Vt)(w:World)(hv:v.ok)(hy:¬AW v):Calls prog 77 #[.pointer p,.int .i64 leaf,v.val] w (WG w):=by
 obtain⟨w1,hw1⟩:=Wr ((w.alloc (.cells v.cells 46)).alloc (.cells BI 62));have hbw:Wx w w1:=by rw[hw1];exact((AC _ _).alloc (AB _) _).alloc (by simp) _
 have hBv:Blk w1 w.heap.size 46 v.cells:=by rw[hw1];exact(Blk.new w _ _).alloc _
 have HBr:Hid (Blk w1 (w.heap.size+1) 62 BI):=by
  unfold Hid;rw[hw1];have:=Blk.new (w.alloc (.cells v.cells 46)) 62 BI;simpa using this
 have HV:Hid (∀W,Calls prog 49 #[v.val] W fun e w'=>e= .returned (.bool false)/\Wx W w'):=fun W=>Rk v W hv hy
 have hx:AK w1 w.heap.size 0 22=some v.cells:=hBv.row 22 rfl;clear hy hv hBv;go_enter func77,ntmps77;go_upto_region 1 with fail
 rw[<-hw1];clear hw1;go_wp2_with (first
  |(go_at_call 49;refine(HV.out _).mono ?_;rintro en w2 ⟨rfl,hb2⟩;have hEo:=AA (HBr.out.below hb2 HBr.out.lt))
  |(refine AJ rfl 62 (.tmp 6) (.tmp 13) rfl (w.heap.size+1) BI rfl rfl 62 BI hEo.out rfl DT (fun u hu=>OI hu) ?_;intro w5 hR5 hg5 yi))
 have xI:=hbw.trans (hb2.mono hbw.size);exact bodyPost_ret (Ac (g:=w.heap.size+1) (cs:=BI) rfl _ _ _ _ _ rfl hR5 underlying62 rfl DT) rfl ⟨rfl,xI.grown hg5 xI.size (by rintro j ⟨⟩;omega)⟩
theorem SgG.kept{base:Nat}{v:Vt}{sig:List UInt8}{cs:Array Value}{V V':World}{r t:Nat}{x:Array Value}(h:SgG base v sig cs V)(hB:Blk V r t x)(ht:5≠t)(hg:V.grownBy V' (some r)):SgG base v sig cs V':=by
 obtain⟨A,c,rfl,ho⟩:=h;exact⟨A,c,rfl,ho.kept hg (.inr fun e=>CO ho hB ht e.symm)⟩
theorem SgG.one{base:Nat}{v:Vt}{sig:List UInt8}{cs:Array Value}{V:World}(h:SgG base v sig cs V):cs.size=23/\∀u∈cs.toList,u.oneCell'=true:=by
 obtain⟨A,c,rfl,_⟩:=h;exact⟨Sg.size_cells _,fun u hu=>Sd _ hu⟩
end
section
open Go.RowKit
attribute [local go_sem ↓] Go.wp_at_zero Go.wp_at_succ Aq Au Av Aw Ij
attribute [local go_sem] BE BL BM BN LG AR AX AU
structure Ch where
 slot:Int
 value:Nm
 deriving DecidableEq
abbrev Ch.cells(o:Ch):Array Value:=#[I o.slot,B o.value.b0,B o.value.b1,B o.value.b2,B o.value.b3,B o.value.b4,B o.value.b5,B o.value.b6,B o.value.b7]
abbrev Ch.val(o:Ch):Value:=.agg o.cells
abbrev Ch.zero:Ch:=⟨0,Nm.zero⟩
abbrev chc(o:Ch):List Value:=o.cells.toList
theorem Ht(l:List Ch):∀o∈l,(chc o).length=9:=fun _ _=>rfl
theorem Rt{u:Value}(o:Ch)(h:u∈o.cells.toList):u.oneCell'=true:=by
 simp at h;rcases h with rfl|rfl|rfl|rfl|rfl|rfl|rfl|rfl|rfl <;> rfl
def FR(o:Oc):Ch:=⟨o.slot,o.value⟩
theorem Ow:(prog.info? 88).map (fun i=>(i.zero,i.size,i.bytes))=some (some (.agg Ch.zero.cells),9,16):=by kernel_rfl
theorem Wc(a b:Ch)(w:World):(Op.equalIn 10000 88 a.val b.val).run prog w= .ok (decide (a=b)) w:=by
 have u3:=underlying3;have a3:=isAgg3;have z3:=sizeOf3;have a5:=isAgg24;have z5:=sizeOf24;have hS:prog.underlying 88=some (.struct (prog.fieldsOf 88)):=by kernel_rfl
 rw[show(10000:Nat)=9999+1 from rfl,run_equalIn_agg w 9999 88 _ _ hS (by kernel_rfl)];have e6:=fun w=>EW a.value b.value w 9997
 simp only[Program.fieldsOf,underlying88];go_simp;rw[Ez];refine FN w ?_;cases a;cases b;simp
def U6(w:World)(L:List Oc)(e:Ending)(w':World):Prop:=
 ∃v:Value,e= .returned v/\w'.ownsRow w.heap.size 88 9 v L.length ((L.map FR).flatMap chc)/\Wx w w'
def WH(L:List Oc)(w:World)(v iv:Value)(wr:World):Prop:=
 ∃i:Nat,iv= .int .i64 (i:Int)/\i<=L.length/\wr.ownsRow w.heap.size 88 9 v i (((L.take i).map FR).flatMap chc)/\Wx w wr
theorem Tc(A:Option Addr)(n c:Nat)(L:List Oc)(w:World)(hn:L.length=n)(hr:Rd w w.heap.size A (L.flatMap occ))(hsm:n<=1000000):Calls prog 45 #[.slice A n c] w (U6 w L):=by
 have HN:=AA hn;have HR:=AA hr;clear hn hr;go_enter func45,ntmps45;go_wp2
 go_loopw [3,8] (fun v iv wr=>WH L w v iv wr) (fun _ iv _=>n-(intOf iv).toNat)
 case atStart=>exact⟨0,rfl,Nat.zero_le _,⟨by simp,.inl ⟨rfl,rfl⟩⟩,AC _ _⟩
 case round=>
  obtain⟨i,rfl,hin,xB,hbw⟩:=hrel;rw[HN.out]at hin;by_cases hi:i<n
  ·have di:=Wu (show i<n by omega)
   obtain⟨T,hT⟩:=Wr (((L.take i).map FR).flatMap chc);rw[<-hT]at xB;have HT:=AA hT;have xF:=AA xB;clear xB hT;obtain⟨x,hx⟩:∃x,L[i]? =some x:=⟨_,AE (by rw[HN.out];exact hi)⟩;obtain⟨b,o,rfl,hb,xH⟩:=HR.out.cells (by intro e;have:=AY occ 11 L (IK L);rw[e,HN.out]at this;simp at this;omega);clear xH;have x1:AK wr b (o+i*11) 11=some x.cells:=(HR.out.below hbw).ocRow hx;have HX:=AA hx;clear hx;go_upto_region 5 with(refine AJ rfl 142 (.tmp 5) (.tmp 11) rfl wr.heap.size x.cells rfl rfl 142 Oc.zero.cells (Blk.new wr _ _) (by rfl) (by kernel_rfl) (fun u hu=>L3 x hu) ?_;intro w4 hB4 hg4 xb)
   have xJ:Hid (w4.ownsRow w.heap.size 88 9 u3 i T):=Ba (xF.out.alloc _) hg4 (fun k hk=>by
    injection hk with hk
    subst hk;right;intro e;have:=(xF.out.lt _ e).2;omega)
   have xI:Wx w w4:=(hbw.alloc hbw.size _).grown hg4 (AG hbw.size (by simp)) (Wt hbw.size);obtain⟨z,hz⟩:=Wr wr.heap.size;rw[<-hz]at hB4 ⊢;have x3:AK w4 z 3 8=some x.value.cells:=x.row_value hB4;have x4:w4.cell? ⟨z,0,none⟩=some (.int .i64 x.slot):=hB4.cell 0;clear hB4 hg4 xb x1 hz xF hbw;try go_frame
   go_wp2_with ((first
    |(refine BQ rfl 36 88 (.tmp 17) rfl (FR x).cells rfl underlying36 (by kernel_rfl) (by decide) (by decide) ?_)
    |(at_builtin;refine Ar rfl (.tmp 12) (.tmp 18) _ rfl w.heap.size 88 (.agg Ch.zero.cells) 9 16 underlying36 Ow rfl (by decide) u3 i T rfl ?r0 (w4.heap.size+1) (some ⟨w4.heap.size,0,none⟩) 1 1 (chc (FR x)) rfl ?r1 ?r2 ?r3 ?r4 ?r5 ?r6 ?_)))
   case r0=>exact xJ.out.alloc _
   case r1=>rfl
   case r2=>exact Rd.mk (by omega) (fun j u hu=>by rw[Nat.zero_add,(Blk.new w4 _ _).cell];simpa[FR]using hu)
   case r3=>exact fun u hu=>Rt _ hu
   case r4=>omega
   case r5=>unfold maxLen;omega
   case r6=>have:=xI.size;simp;omega
   intro v7 w7 xE hg7 xo;have yL:Wx w w7:=BO (xI.alloc xI.size _) (xJ.out.alloc _) hg7;have xO:=AA xE;clear xE hg7 xo x3 x4 xJ;go_wp2;go_roundw
   case rel=>
    refine⟨i+1,by go_num,by rw[HN.out];omega,?_,yL⟩;have h:=xO.out;rw[HT.out]at h;rw[Ah,HX.out,Ad,Af];simpa using h
   case measure=>simp[intOf];omega
  ·obtain rfl:n=i:=by omega
   have di:decide ((n:Int)<(n:Int))=false:=by simp
   have HT:Hid (L.take n=L):=by unfold Hid;rw[<-HN.out,List.take_length]
   rw[HT.out]at xB;have xF:=AA xB;clear xB;go_wp2;go_ret;exact⟨_,rfl,by rw[HN.out];exact xF.out,hbw⟩
end
end Go.Proofs.YtadllffeoibelaaGreat
