/-
  What these parts of the proof come to, functions walked and plain laws: SNext, KeyTr, KeyS, KeyG. No condition.
-/
import Derived.Test.YtadllffeoibelaaGreatS38
import Derived.Test.YtadllffeoibelaaGreatS15
import Derived.Test.YtadllffeoibelaaGreatS6
namespace Go.Proofs.YtadllffeoibelaaGreat
set_option maxRecDepth 100000
set_option maxHeartbeats 32000000
set_option linter.all false
section
open Go.RowKit Go.Shelf
attribute [local go_sem ↓] Go.wp_at_zero Go.wp_at_succ An Au Av Aw DK
attribute [local go_sem] BD BH BI BJ EO AN AW AQ
def DP(M:Int)(p:Nm)(f:Int)(l:List Vt)(H:List Nm)(wt:Bool):Option Vt→Prop
 |none=>∀s,s≤9→Ci M (B9 (At (xOf M) 10)) p s f l H wt none
 |some v=>∃s,s≤9∧(∀s',s'<s→Ci M (B9 (At (xOf M) 10)) p s' f l H wt none)∧Ci M (B9 (At (xOf M) 10)) p s f l H wt (some v)
theorem Ol(M:Int)(p:Nm)(A:Option Addr)(n c:Nat)(l:List Vt)(f:Int)(AH:Option Addr)(nH cH:Nat)(H:List Nm)(wt:Bool)(w0:World)(hn:l.length=n)(hr:Rd w0 w0.heap.size A (l.flatMap vtc))(hsm:n≤1000000)(hl:∀v∈l,Ae v)(hf:0≤f∧f≤9)(hnH:H.length=nH)(hrH:Rd w0 w0.heap.size AH (H.flatMap nmc))(hsmH:nH≤1000000):Calls Tryz.prog 75 #[.int .i64 M,p.val,.slice A n c,.int .i64 f,.slice AH nH cH,.bool wt] w0 (Cv (DP M p f l H wt) w0):=by
 obtain⟨w,hw⟩:∃w,w=w0.alloc (.cells p.cells 24):=⟨_,rfl⟩;obtain⟨w1,hw1⟩:∃w1,w1=w.alloc (.cells Ah 46):=⟨_,rfl⟩;have hs1:w.heap.size=w0.heap.size+1:=by rw[hw];simp
 have hb0:Below w0.heap.size w0 w:=by rw[hw];exact(AC _ _).alloc (AB _) _
 have hb1:Below w0.heap.size w0 w1:=by rw[hw1];exact hb0.alloc hb0.size _
 obtain⟨qb,hqb⟩:∃g,g=w0.heap.size:=⟨_,rfl⟩;obtain⟨g,hg⟩:∃g,g=w0.heap.size+1:=⟨_,rfl⟩;have hQ1:Blk w1 qb 24 p.cells:=by rw[hw1,hw,hqb];exact(Blk.new w0 _ _).alloc _
 have hG1:Blk w1 g 46 Ah:=by rw[hw1,hg,←hs1];exact Blk.new w _ _
 have hgw:w0.heap.size≤g:=by omega
 have HG:Hid (∀V,Below w1.heap.size w1 V→Blk V g 46 Ah):=fun V hV=>hG1.below hV hG1.lt
 have HQ:Hid (∀V,Below w1.heap.size w1 V→AK V qb 0 8=some p.cells):=fun V hV=>(hQ1.below hV hQ1.lt).row 8 rfl
 have HNx:Hid (∀(s:Nat) V,s≤9→Below w1.heap.size w1 V→Calls Tryz.prog 111 #[.int .i64 M,p.val,.slice A n c,.int .i64 (s:Int),.int .i64 f,.slice AH nH cH,.bool wt] V (Cv (Ci M (B9 (At (xOf M) 10)) p s f l H wt) V)):=fun s V hs hV=>
  QZ M p A n c l s f AH nH cH H wt V hn ((hr.below (hb1.trans (hV.mono hb1.size))).more (AF hb1.size hV.size)) hsm hl hs hf hnH ((hrH.below (hb1.trans (hV.mono hb1.size))).more (AF hb1.size hV.size)) hsmH
 obtain⟨q,hq⟩:∃q,q=B9 (At (xOf M) 10):=⟨_,rfl⟩;have HSr:Hid (∀o,((o=none→∀s,s≤9→Ci M q p s f l H wt none)∧∀v,o=some v→∃s,s≤9∧(∀s',s'<s→Ci M q p s' f l H wt none)∧Ci M q p s f l H wt (some v))→DP M p f l H wt o):=fun o h=>by
  rw[hq]at h;cases o with
  |none=>exact h.1 rfl
  |some v=>exact h.2 v rfl
 rw[←hq]at HNx;have HB1:=AA hb1;have HW:=AA hw;have HW1:=AA hw1;have HGg:=AA hg;have HQb:=AA hqb;have hbx:Below w1.heap.size w1 w1:=AC _ _;clear hw hw1 hs1 hb0 hb1 hqb hg hQ1 hG1 hr hrH hf hn hl hnH hq;go_enter Tryz.func75,Tryz.ntmps75;go_upto_region 1 with fail
 simp only[←HW.out,←HW1.out,←HGg.out];simp only[←HQb.out];go_wp2
 go_loopw [17] (fun iv wr=>∃s:Nat,iv= .int .i64 (s:Int)∧s≤10∧Below w1.heap.size w1 wr∧∀s',s'<s→Ci M q p s' f l H wt none) (fun iv _=>10-(intOf iv).toNat)
 case atStart=>exact⟨0,rfl,Nat.zero_le _,hbx,fun s' h=>by omega⟩
 case round=>
  obtain⟨s,rfl,hs10,hbr,hno⟩:=hrel;have HNo:=AA hno;clear hno;by_cases hs:s<10
  ·have ds:decide ((s:Int)<10)=true:=by simp;omega
   have y1:AK wr qb 0 8=some p.cells:=HQ.out _ hbr;have HNx':=AA (HNx.out s wr (by omega) hbr);go_wp2_with fail
   refine HNx'.out.mono ?_;rintro en w5 ⟨o5,rfl,hR5,hb5⟩;have HR5:=AA hR5;have hbx5:=hbr.trans (hb5.mono hbr.size);clear hR5;cases o5 with
   |some v=>
    simp only[Ex,Option.isSome_some];go_upto_region 5 with(refine AJ rfl 46 (.tmp 15) (.tmp 29) rfl w5.heap.size v.cells rfl rfl 46 Bk.cells (Blk.new w5 _ _) (by rfl) (by kernel_rfl) (fun u hu=>BM v hu) ?_;intro wz5 hBz hgz hsz)
    have hbz5:Below w1.heap.size w1 wz5:=(hbx5.alloc hbx5.size _).grown hgz (AF hbx5.size (by simp)) (fun k hk=>by injection hk with hk;subst hk;exact hbx5.size);have hb0z:=HB1.out.trans (hbz5.mono HB1.out.size);have xz:AK wz5 w5.heap.size 0 22=some v.cells:=hBz.row 22 rfl;obtain⟨zz,hzz⟩:∃zz,zz=w5.heap.size:=⟨_,rfl⟩;rw[←hzz]at xz ⊢;clear hzz hBz hgz hsz;go_wp2_with (refine AJ rfl 46 (.tmp 12) (.tmp 32) rfl g (v).cells rfl rfl 46 Ah (HG.out _ hbz5) rfl Ao (fun u hu=>BM _ hu) ?_;intro w9 hR9 hg9 hsz9)
    refine bodyPost_ret (Ab (g:=g) (cs:=(v).cells) rfl _ _ _ _ _ rfl hR9 Tryz.underlying46 rfl Ao) rfl ⟨some (v),rfl,HSr.out (some v) ⟨fun h=>(by cases h),fun v' h=>by injection h with h;subst h;exact⟨s,by omega,HNo.out,HR5.out⟩⟩,?_⟩;exact Below.grown (hb0z) hg9 (Below.size (hb0z)) (fun k hk=>by injection hk with hk;subst hk;exact hgw)
   |none=>
    simp only[Ex,Option.isSome_none];go_upto_region 5 with(refine AJ rfl 46 (.tmp 15) (.tmp 29) rfl w5.heap.size Ah rfl rfl 46 Bk.cells (Blk.new w5 _ _) (by rfl) (by kernel_rfl) (fun u hu=>CE hu) ?_;intro wz5 hBz hgz hsz)
    have hbz5:Below w1.heap.size w1 wz5:=(hbx5.alloc hbx5.size _).grown hgz (AF hbx5.size (by simp)) (fun k hk=>by injection hk with hk;subst hk;exact hbx5.size);clear hBz hgz hsz;have HNo':Hid (∀s',s'<s+1→Ci M q p s' f l H wt none):=fun s' h=>by
     by_cases h3:s'=s
     ·rw[h3];exact HR5.out
     ·exact HNo.out s' (by omega)
    go_wp2;go_roundw
    case rel=>exact⟨s+1,by go_num,by omega,hbz5,HNo'.out⟩
    case measure=>simp[intOf];omega
  ·have ds:decide ((s:Int)<10)=false:=by simp;omega
   have hb0r:=HB1.out.trans (hbr.mono HB1.out.size);go_wp2_with (refine AJ rfl 46 (.tmp 12) (.tmp 34) rfl g Ah rfl rfl 46 Ah (HG.out _ hbr) rfl Ao (fun u hu=>CE hu) ?_;intro w9 hR9 hg9 hsz9)
   refine bodyPost_ret (Ab (g:=g) (cs:=Ah) rfl _ _ _ _ _ rfl hR9 Tryz.underlying46 rfl Ao) rfl ⟨none,rfl,HSr.out none ⟨fun _ s' h=>HNo.out s' (by omega),fun v h=>(by cases h)⟩,?_⟩;exact Below.grown (hb0r) hg9 (Below.size (hb0r)) (fun k hk=>by injection hk with hk;subst hk;exact hgw)
end
section
open Go.RowKit
attribute [local go_sem ↓] Go.wp_at_zero Go.wp_at_succ An
attribute [local go_sem] BD AN AW AQ
def JE(s:Nm)(h m level number:Nat)(w:World)(e:Ending)(w':World):Prop:=
 ∃g,e= .returned (GO g)∧Ba w' g 32 (ES s level number)∧Bc s h m w'∧w.grownBy w' (some m)
theorem He{w w':World}{row:Option Nat}(h:Below w.heap.size w w'):w.grownBy w' row:=⟨h.os,h.tape,h.output,h.size,fun i hi _=>h.block i hi⟩
theorem Om{w w1 w2:World}{row:Option Nat}{k:Nat}(h1:w.grownBy w1 row)(h2:w1.grownBy w2 (some k))(hk:w.heap.size≤k):w.grownBy w2 row:=
 ⟨h2.os.trans h1.os,h2.tape.trans h1.tape,h2.output.trans h1.output,AF h1.size h2.size,fun i hi hne=>(h2.block i (Nat.lt_of_lt_of_le hi h1.size) (by intro e;injection e with e;omega)).trans (h1.block i hi hne)⟩
theorem Qa(g:Nat)(W:World):(binOp .neq 75 (GO g) (.slice none 0 0)).run Tryz.prog W= .ok (.bool true) W:=by first|rfl|kernel_rfl
theorem Rt(W:World):(binOp .neq 75 (.slice none 0 0) (.slice none 0 0)).run Tryz.prog W= .ok (.bool false) W:=by first|rfl|kernel_rfl
theorem Qb(s:Nm)(h m level number g:Nat)(tl:List ((Int×Int)×Value))(w:World)(hB:Blk w h 152 (CI s m))(hM:Cr DG w m tl)(ha:BR ((level:Int),(number:Int)) tl=some (GO g)):Calls Tryz.prog 92 #[.pointer (some ⟨h,0,none⟩),.int .i64 (level:Int),.int .i64 (number:Int)] w fun e w'=>e= .returned (GO g)∧w'=w:=by
 have c9:w.cell? ⟨h,9,none⟩=some (.map (some m)):=hB.cell 9;have hlook:(Instr.lookup 150 (.map (some m)) (.agg #[.int .i64 (level:Int),.int .i64 (number:Int)]) false).run Tryz.prog w= .ok (GO g) w:=by
  have h1:=hM.look OU Tryz.underlying150 (.slice none 0 0) (by first|rfl|kernel_rfl) ((level:Int),(number:Int)) false;rw[ha]at h1;exact h1
 have hne:=Qa g w;clear hB hM ha;go_enter Tryz.func92,Tryz.ntmps92;go_wp2;go_ret;exact⟨rfl,rfl⟩
theorem Qc(s:Nm)(h m level number:Nat)(tl:List ((Int×Int)×Value))(w:World)(hl:level≤2)(hn:number<32)(hB:Blk w h 152 (CI s m))(hhm:h≠m)(hM:Cr DG w m tl)(hT:GP s w tl)(ha:BR ((level:Int),(number:Int)) tl=none):Calls Tryz.prog 92 #[.pointer (some ⟨h,0,none⟩),.int .i64 (level:Int),.int .i64 (number:Int)] w (JE s h m level number w):=by
 have c9:w.cell? ⟨h,9,none⟩=some (.map (some m)):=hB.cell 9;have hlook:(Instr.lookup 150 (.map (some m)) (.agg #[.int .i64 (level:Int),.int .i64 (number:Int)]) false).run Tryz.prog w= .ok (.slice none 0 0) w:=by
  have h1:=hM.look OU Tryz.underlying150 (.slice none 0 0) (by first|rfl|kernel_rfl) ((level:Int),(number:Int)) false;rw[ha]at h1;exact h1
 have hne:=Rt w;obtain⟨Z,hZ⟩:∃Z,Z=Array.replicate 256 (Value.int .u8 0):=⟨_,rfl⟩;have hmk:∀W:World,(Instr.makeSlice 75 (.int .i64 32) (.int .i64 32)).run Tryz.prog W= .ok (.slice (some ⟨W.heap.size,0,none⟩) 32 32) (W.alloc (.cells Z 24)):=fun W=>by rw[hZ];kernel_rfl
 have HZ:Hid (Z.size=8*32):=by rw[hZ];exact Array.size_replicate
 have HB:=AA hB;have HM:=AA hM;have HT:=AA hT;have HHM:=AA hhm;clear hZ hB hM hT ha hhm;go_enter Tryz.func92,Tryz.ntmps92;go_upto_region 5 with fail
 clear hmk hlook hne c9;have hN:Ba (w.alloc (Obj.cells Z 24)) w.heap.size 32 []:=Ba.zero w Z 32 HZ.out;have hbW:Below w.heap.size w (w.alloc (Obj.cells Z 24)):=(AC _ _).alloc (AB _) _;generalize (w.alloc (Obj.cells Z 24))=W at*;clear HZ;try go_frame
 go_wp2_with fail
 go_loopw [24] (fun i wr=>∃k:Nat,k≤32∧i= .int .i64 k∧Ba wr w.heap.size 32 ((List.range k).map (Gt s level number))∧Below w.heap.size w wr)
  (fun i _=>32-(intOf i).toNat)
 case atStart=>exact⟨0,by omega,rfl,hN,hbW⟩
 case round=>
  clear hN hbW;obtain⟨k,hk,rfl,hN,hb⟩:=hrel;by_cases hlt:k<32
  ·have e1:=EJ (Gt s level number) k;have E1:=AA e1;clear e1;have E2:Hid (((List.range k).map (Gt s level number)).length=k):=by show _=_;simp
   generalize (List.range k).map (Gt s level number)=nl at*;obtain⟨y,hy⟩:∃y,Gt s level number k=y:=⟨_,rfl⟩;obtain⟨x,hx⟩:∃x,LG s level number k=x:=⟨_,rfl⟩;have e3:PV x=y:=by rw[←hx,←hy];rfl
   have HS:Hid (Calls Tryz.prog 140 #[.pointer (some ⟨h,0,none⟩),.int .i64 (level:Int),.int .i64 (number:Int),.int .i64 (k:Int)] wr (BT wr x)):=Ir s x h m level number k wr (HB.out.below hb HB.out.lt) hl hn hlt hx;have HW:Hid (∀W,Calls Tryz.prog 139 #[x.val] W (BT W y)):=fun W=>KQ x y W e3
   rw[hy]at E1;clear hx hy e3;go_wp2_with (first
    |(go_at_call 140;refine HS.out.mono ?_;rintro en w2 ⟨rfl,hb2⟩;have hN2:=hN.below hb2 hN.lt;have hbw2:=hb.trans (hb2.mono hb.size))
    |(go_at_call 139;refine(HW.out _).mono ?_;rintro en w3 ⟨rfl,hb3⟩;have hN3:=hN2.below hb3 hN2.lt;have hbw3:=hbw2.trans (hb3.mono hbw2.size))
    |(refine DC rfl 24 (.tmp 35) (.tmp 34) rfl w.heap.size 32 k nl y rfl rfl hN3 E2.out hlt Ap ?_))
   intro w4 hN4 hg4 hs4;have hbw4:Below w.heap.size w w4:=hbw3.grown hg4 hbw3.size (by rintro j ⟨⟩;omega);clear hN hb hb2 hN2 hbw2 hb3 hN3 hbw3 hg4 hs4 HW HS;go_wp2;go_roundw
   case rel=>exact⟨k+1,by omega,by go_num,by rw[E1.out];exact hN4,hbw4⟩
   case measure=>simp[intOf];omega
  ·obtain rfl:k=32:=by omega
   have HM2:Hid (Cr DG wr m tl):=HM.out.below hb HM.out.lt;have c9:wr.cell? ⟨h,9,none⟩=some (.map (some m)):=(HB.out.below hb HB.out.lt).cell 9;have hmlt:=HM.out.lt;have HN:=AA hN;clear hN;go_wp2_with (refine LI (enc:=DG) rfl 150 75 (.tmp 40) (.tmp 43) (.tmp 44) rfl m ((level:Int),(number:Int)) (GO w.heap.size) tl rfl rfl rfl HM2.out OU Tryz.underlying150 ?_;intro w5 hM5 hg5 hs5)
   go_ret;have hN5:Ba w5 w.heap.size 32 (ES s level number):=HN.out.kept hg5 (by simp;omega);have hgr:w.grownBy w5 (some m):=(He hb).trans hg5;refine⟨w.heap.size,rfl,hN5,⟨HB.out.kept hgr (by simpa using HHM.out),HHM.out,_,hM5,fun a v hav=>?_⟩,hgr⟩;rw[Cy]at hav;split at hav
   ·rename_i hkk
    injection hav with hav
    exact⟨level,number,w.heap.size,hkk,hav.symm,hN5⟩
   ·obtain⟨a1,b1,g,h1,h2,h3⟩:=HT.out a v hav;refine⟨a1,b1,g,h1,h2,h3.kept hgr ?_⟩;intro e;injection e with e
    subst e;obtain⟨cur,hC,_⟩:=h3;obtain⟨es,cl,h5,_⟩:=HM.out;unfold Blk at hC;rw[hC]at h5;cases h5
theorem Lr(s:Nm)(h m level number:Nat)(w:World)(hk:Bc s h m w)(hl:level≤2)(hn:number<32):Calls Tryz.prog 92 #[.pointer (some ⟨h,0,none⟩),.int .i64 (level:Int),.int .i64 (number:Int)] w (JE s h m level number w):=by
 obtain⟨hB,hhm,tl,hM,hT⟩:=hk;cases ha:BR ((level:Int),(number:Int)) tl with
 |none=>exact Qc s h m level number tl w hl hn hB hhm hM hT ha
 |some v=>
  obtain⟨a,b,g,h1,rfl,h3⟩:=hT _ _ ha;have e1:level=a:=by have:=congrArg Prod.fst h1;simp at this;omega
  have e2:number=b:=by have:=congrArg Prod.snd h1;simp at this;omega
  subst e1;subst e2;refine(Qb s h m level number g tl w hB hM ha).mono ?_;rintro e w' ⟨rfl,rfl⟩;exact⟨g,rfl,h3,⟨hB,hhm,tl,hM,hT⟩,Ai _ _⟩
structure KFr (base m:Nat)(w w':World):Prop where
 os:w'.os=w.os
 tape:w'.tape=w.tape
 output:w'.output=w.output
 size:w.heap.size≤w'.heap.size
 block:∀i,i<base→i≠m→w'.heap[i]? =w.heap[i]?
theorem KFr.trans{base m:Nat}{w w1 w2:World}(h:KFr base m w w1)(h':KFr base m w1 w2):KFr base m w w2:=
 ⟨h'.os.trans h.os,h'.tape.trans h.tape,h'.output.trans h.output,AF h.size h'.size,fun i hi hm=>(h'.block i hi hm).trans (h.block i hi hm)⟩
theorem KFr.grown{base m:Nat}{w w':World}(h:w.grownBy w' (some m))(hb:base≤w.heap.size):KFr base m w w':=
 ⟨h.os,h.tape,h.output,h.size,fun i hi hm=>h.block i (Nat.lt_of_lt_of_le hi hb) (by simpa using hm)⟩
theorem KFr.below{base m B':Nat}{w w':World}(h:Below B' w w')(hb:base≤B'):KFr base m w w':=
 ⟨h.os,h.tape,h.output,h.size,fun i hi _=>h.block i (Nat.lt_of_lt_of_le hi hb)⟩
theorem KFr.own{base m e size n:Nat}{w w':World}{v:Value}{xs:List Value}(h:w.ownsRow base e size v n xs)(hg:w.grownBy w' v.ownBlock)(hb:base≤w.heap.size):KFr base m w w':=
 ⟨hg.os,hg.tape,hg.output,hg.size,fun i hi _=>hg.block i (Nat.lt_of_lt_of_le hi hb) (fun e=>by have:=(h.lt _ e.symm).1;omega)⟩
theorem KFr.all{m:Nat}{w w':World}(h:KFr w.heap.size m w w'):w.grownBy w' (some m):=
 ⟨h.os,h.tape,h.output,h.size,fun i hi hm=>h.block i hi (fun e=>hm (by rw[e]))⟩
theorem Nr{s:Nm}{h m base e size n:Nat}{w:World}{v:Value}{xs:List Value}(hk:Bc s h m w)(ho:w.ownsRow base e size v n xs):v.ownBlock≠some m:=by
 rcases ho.2 with⟨rfl,_⟩|⟨g,cap,cur,rfl,_,hh,_⟩
 ·intro e;cases e
 ·intro he;have he':g=m:=by simpa[Value.ownBlock]using he
  subst he';obtain⟨_,_,tl,⟨es,c,h5,_⟩,_⟩:=hk;rw[hh]at h5;cases h5
def JF(s:Nm)(h m base n:Nat)(xs:List Value)(p:List UInt8)(w:World)(e:Ending)(w':World):Prop:=
 ∃A c,e= .returned (.slice A (n+184) c)∧w'.ownsRow base 5 1 (.slice A (n+184) c) (n+184) (xs++p.map B)∧Bc s h m w'∧KFr base m w w'
theorem IB(s nm:Nm)(h m level number j base n c0:Nat)(A0:Option Addr)(xs:List Value)(w:World)(hk:Bc s h m w)(hown:w.ownsRow base 5 1 (.slice A0 n c0) n xs)(hbase:base≤w.heap.size)(hl:level≤2)(hn:number<32)(hj:j<32)(hn0:n≤1000):Calls Tryz.prog 164 #[.pointer (some ⟨h,0,none⟩),.slice A0 n c0,.int .i64 (level:Int),.int .i64 (number:Int),.int .i64 (j:Int),nm.val] w (JF s h m base n xs (GN s level number j nm) w):=by
 obtain⟨i0,hi,hz0,hz1,hz2⟩:=info_parts DQ;obtain⟨W,hW⟩:∃W,W=w.alloc (Obj.cells nm.cells 24):=⟨_,rfl⟩;have hbW:Below w.heap.size w W:=by rw[hW];exact(AC _ _).alloc (AB _) _
 have hkW:=hk.below hbW;have hX:Blk W w.heap.size 24 nm.cells:=by rw[hW];exact Blk.new w _ _
 have hownW:=BA hown hbW (AB _);have HT:=AA (Lr s h m level number W hkW hl hn);have HOM:=AA (Nr hkW hownW);have hml:m<w.heap.size:=by obtain⟨_,_,tl,hM,_⟩:=hk;exact hM.lt
 have hne:w.heap.size≠m:=by omega
 have HPa:Hid (∀V g,Ba V g 32 (ES s level number)→Calls Tryz.prog 219 #[GO g,.int .i64 (j:Int)] V (LH V 5 (E9 5 j (ES s level number)))):=fun V g hN=>Pa j _ g 0 32 V (Jt _ _ _) (by omega) (by unfold maxLen;omega) hj hN.rd
 obtain⟨x,hx⟩:∃x,LG s level number j=x:=⟨_,rfl⟩;have HSd:Hid (∀V,Bc s h m V→Calls Tryz.prog 140 #[.pointer (some ⟨h,0,none⟩),.int .i64 (level:Int),.int .i64 (number:Int),.int .i64 (j:Int)] V (BT V x)):=fun V hV=>Ir s x h m level number j V hV.1 hl hn hj hx
 obtain⟨os,hos⟩:∃os,os=In x nm:=⟨_,rfl⟩;have HOs:Hid (∀V,Calls Tryz.prog 220 #[x.val,nm.val] V (KB V 18 os)):=fun V=>by rw[hos];exact OM x nm V
 have HOl:Hid (os.length=18):=by rw[hos];exact Io x nm
 obtain⟨pa,hpa⟩:∃pa,pa=E9 5 j (ES s level number):=⟨_,rfl⟩;have HPl:Hid (pa.length=5):=by rw[hpa];exact DM 5 j _
 rw[←hpa]at HPa;have hpart:GN s level number j nm=(os++pa).flatMap Nm.bytes:=by rw[GN,hx,hos,hpa]
 obtain⟨nl,hnl⟩:∃nl,nl=os++pa:=⟨_,rfl⟩;rw[hpart,←hnl];have HNq:=AA hnl;clear hpart hpa hos hx hk hown hkW hnl;obtain⟨q,hq⟩:∃q,q=w.heap.size:=⟨_,rfl⟩;rw[←hq]at hX hne;have hKF:KFr base m w W:=KFr.below hbW hbase;have hbq:base≤q:=by omega
 have hbWs:base≤W.heap.size:=AF hbase hbW.size;go_enter Tryz.func164,Tryz.ntmps164;go_upto_region 1 with fail
 rw[←hW,←hq];clear hW hq hbase hbW;go_upto_region 2 with(first
  |(go_at_call 92;refine HT.out.mono ?_;rintro en w3 ⟨g,rfl,hN3,hk3,hg3⟩;have hX3:=hX.kept hg3 (by simpa using hne);have hown3:=hownW.kept hg3 (.inr HOM.out);have hF3:=hKF.trans (KFr.grown hg3 hbWs))
  |(go_at_call 219;refine(HPa.out _ _ hN3).mono ?_;rintro en w4 ⟨A4,c4,rfl,hownP,hb4⟩;have hX4:=hX3.below hb4 hX3.lt;have hown4:=BA hown3 hb4 (AB _);have hk4:=hk3.below hb4;have hF4:=hF3.trans (KFr.below hb4 (AF hbWs hg3.size))))
 have hs4:base≤w4.heap.size:=AF hbWs (AF hg3.size hb4.size);clear hN3 hk3 hg3 hX3 hown3 hF3 hb4 hownW hX hKF HT HPa hml hbWs;try go_frame
 have HP4:Hid (Rd w4 w4.heap.size A4 (pa.flatMap nmc)):=Rd.of_own hownP;clear hownP;obtain⟨b4,o4,rfl,_⟩:=IM HP4.out (by rw[HPl.out];omega);have x4:AK w4 q 0 8=some nm.cells:=hX4.row 8 rfl;have HX4:=AA hX4;have HK4:=AA hk4;have HO4:=AA hown4;clear hX4 hk4 hown4;have hb0:Below w4.heap.size w4 w4:=AC _ _;refine rgD (fun w'=>AK w' q 0 8=some nm.cells) (x4) fun hHeld=>?_
 refine tkD 26 0 ?_;go_frame;refine tkD 27 1 ?_;go_frame;refine tkD 28 2 ?_;go_frame;refine tkD 29 3 ?_;go_frame;refine tkD 31 5 ?_;go_frame;refine tkD 33 7 ?_;go_frame;refine tkD 36 10 ?_;go_frame;refine rd1 4 fun K hK=>?_
 go_simp;refine(HSd.out _ HK4.out.drew).mono ?_;rintro en w5 ⟨rfl,hb5⟩;have hbx5:=hb0.drew.trans (hb5.mono (AB _));go_wp2_with fail
 refine hK.out _ _ (Ay x4 hbx5 HX4.out.lt) (fun hHeld=>?_);clear hK K;try go_frame
 refine rd1 6 fun K hK=>?_
 go_simp;refine(HOs.out _).mono ?_;rintro en w6 ⟨g6,rfl,hN6,hb6⟩;have hbx6:=hbx5.trans (hb6.mono hbx5.size);go_wp2_with fail
 refine hK.out _ _ (Ay x4 hbx6 HX4.out.lt) (fun hHeld=>?_);clear hK K;try go_frame
 refine rd1 8 fun K hK=>?_
 rw[if_pos (by rfl)];refine C9 _ (some 34) rfl (.tmp 32) (.tmp 33) _ (by rfl) 24 i0 (Nm.val ⟨0,0,0,0,0,0,0,0⟩) 8 8 Tryz.underlying75 hi hz0 hz1 hz2 rfl (by decide) (some ⟨g6,0,none⟩) 18 18 (os.flatMap nmc) (by rfl) (fun e=>by cases e) (by rw[AX nmc 8 os (Cb os),HOl.out]) ?ah ⟨b4,o4,none⟩ 5 c4 (pa.flatMap nmc) (by rfl) (by rw[AX nmc 8 pa (Cb pa),HPl.out]) ?ac (fun u hu=>Ed hu) (by omega) (by unfold maxLen;omega) (by omega) ?_
 case ah=>
  intro p hp j u hu;injection hp with hp;subst hp
  rcases(hN6).rd with h0|⟨b',o',e,_,hc⟩
  ·rw[h0]at hu;simp at hu
  ·injection e with e;injection e with e1 e2;subst e1;subst e2
   rw[Addr.add_mid];exact hc j u hu
 case ac=>
  intro j u hu;rcases HP4.out.below hbx6 with h0|⟨b',o',e,_,hc⟩
  ·rw[h0]at hu;simp at hu
  ·injection e with e;injection e with e1 e2;subst e1;subst e2
   rw[Addr.add_mid];exact hc j u hu
 intro v7 w7 hown7 hg7;obtain⟨A7,c7,hv7⟩:=Ar hown7;subst hv7;have hbx7:Below w4.heap.size w4 w7:=Ck hbx6 hg7;refine hK.out _ _ (Ay x4 hbx7 HX4.out.lt) (fun hHeld=>?_);clear hK K;try go_frame
 refine tkD 35 9 ?_;go_frame;refine dnD ?_;have HK7:=AA (HK4.out.below hbx7);have hown0:=BA HO4.out hbx7 (AB _);have hF7:=hF4.trans (KFr.below (m:=m) hbx7 hs4);have hs7:base≤w7.heap.size:=AF hs4 hbx7.size;rw[←Ad,←HNq.out]at hown7;have HNl:Hid (nl.length=23):=by show nl.length=23;rw[HNq.out,AI,HOl.out,HPl.out]
 obtain⟨b7,o7,rfl,hb7lt⟩:=IM (Rd.of_own hown7) (by rw[HNl.out];omega);obtain⟨cur,hcur⟩:=SL hown7;have HCu:Hid (∀k x,nl[k]? =some x→∀V,Blk V b7 24 cur→AK V b7 (o7+k*8) 8=some x.cells):=fun k x hkx V hV=>by
  refine Bo (fun j u hu=>?_) rfl;have h1:=Rd.name (Rd.of_own hown7) hkx;obtain⟨b',o',e,_,hc⟩:=h1;injection e with e;injection e with e1 e2;subst e1;subst e2
  have h2:=hc j u (by simpa using hu);rw[hcur.cell]at h2;rw[hV.cell];exact h2
 clear HNq hown7 hg7 hN6 hbx7 hbx6 hbx5 hb5 hb6 hHeld x4 HX4 HK4 HO4 HSd HOs HP4 hF4 hs4 hb0 HOl HPl;try go_frame
 go_wp2_with fail
 go_loopw [1,36] (fun v i wr=>∃k:Nat,k≤23∧i= .int .i64 k∧wr.ownsRow base 5 1 v (n+8*k) (xs++((nl.take k).flatMap Nm.bytes).map B)∧Blk wr b7 24 cur∧Bc s h m wr∧KFr base m w wr∧base≤wr.heap.size)
  (fun _ i _=>23-(intOf i).toNat)
 case atStart=>exact⟨0,by omega,rfl,by simpa using hown0,hcur,HK7.out,hF7,hs7⟩
 case round=>
  clear hown0 hcur hF7 hs7 HK7;obtain⟨k,hk,rfl,hown,hC,hkk,hF,hs⟩:=hrel;by_cases hlt:k<23
  ·obtain⟨y,hy⟩:∃y,nl[k]? =some y:=⟨_,AE (by rw[HNl.out];exact hlt)⟩;have e1:=N6 nl k y hy;have E1:=AA e1;clear e1;have xk:AK wr b7 (o7+k*8) 8=some y.cells:=HCu.out k y hy wr hC;have ltC:=hC.lt;have HKk:=AA hkk;clear hkk hy;generalize List.flatMap Nm.bytes (nl.take k)=bs at*;have i1:(0:Int)≤(k:Int):=by omega
   have i2:(k:Int)<23:=by omega
   go_wp2_with (refine AJ rfl 24 (.tmp 16) (.tmp 39) rfl wr.heap.size _ rfl rfl 24 _ (Blk.new wr _ _) rfl Ap (fun u hu=>FA y hu) ?_)
   intro w2 hV2 hg2 hs2;have hown2:=(hown.alloc _).kept hg2 (N7 hown);have hC2:=(hC.alloc _).kept hg2 (by simp;omega);have hb2:Below wr.heap.size wr w2:=((AC _ _).alloc (AB _) _).grown hg2 (by simp) (by rintro j ⟨⟩;exact AB _);have HK2:=AA (HKk.out.below hb2);have hF2:=hF.trans (KFr.below (m:=m) hb2 hs);have hs2':base≤w2.heap.size:=AF hs hb2.size;clear hown hC xk hb2 hF hs hg2 hs2 HKk;go_wp2_with (at_builtin;refine Aq rfl (.tmp 40) (.tmp 41) _ rfl base 5 (.int .u8 0) 1 1 Tryz.underlying60 Bt rfl (by decide) _ (n+8*k) _ rfl hown2 w2.heap.size _ 8 8 (y.bytes.map B) rfl rfl ?r1 ?r2 ?r3 ?r4 ?r5 ?_)
   case r1=>
    have h:=Rd.of_blk hV2 0 8;simpa[Nm.bytes]using h
   case r2=>exact fun u hu=>B3 hu
   case r3=>omega
   case r4=>unfold maxLen;omega
   case r5=>exact hs2'
   intro v3 w3 hown3 hg3 hat3;have hC3:=hC2.kept hg3 (CC hown2 hC2 (by decide));have HK3:=AA (HK2.out.own hown2 hg3);have hF3:=hF2.trans (KFr.own (m:=m) hown2 hg3 hs2');have hs3:base≤w3.heap.size:=AF hs2' hg3.size;clear hown2 hC2 hV2 hg3 hat3 HK2 hF2 hs2';go_wp2;go_roundw
   case rel=>exact⟨_,_,_,_,_,_,_,_,_,_,⟨k+1,by omega,by go_num,by rw[E1.out,Ac,show n+8*(k+1)=n+8*k+8 from by omega];exact hown3,hC3,HK3.out,hF3,hs3⟩,rfl⟩
   case measure=>simp[intOf];omega
  ·obtain rfl:k=23:=by omega
   rw[AT (by rw[HNl.out];omega)]at hown;obtain⟨A8,c8,rfl⟩:=Ar hown;go_wp2;go_ret;exact⟨A8,c8,rfl,hown,hkk,hF⟩
def Kf(s:Nm)(h m leaf:Nat)(nm:Nm)(w:World)(e:Ending)(w':World):Prop:=
 ∃A c,e= .returned (.tuple #[.slice A 370 c,.bool true])∧w'.ownsRow w.heap.size 5 1 (.slice A 370 c) 370 ((EI s leaf nm).map B)∧Bc s h m w'∧w.grownBy w' (some m)
theorem Ls{s:Nm}{h m:Nat}{w:World}(hk:Bc s h m w):m<w.heap.size:=by obtain⟨_,_,tl,hM,_⟩:=hk;exact hM.lt
theorem On(s nm:Nm)(h m leaf:Nat)(w:World)(hk:Bc s h m w)(hlf:leaf<1024):Calls Tryz.prog 112 #[.pointer (some ⟨h,0,none⟩),.int .i64 (leaf:Int),nm.val] w (Kf s h m leaf nm w):=by
 obtain⟨W,hW⟩:∃W,W=w.alloc (Obj.cells nm.cells 24):=⟨_,rfl⟩;have hbW:Below w.heap.size w W:=by rw[hW];exact(AC _ _).alloc (AB _) _
 have hkW:=hk.below hbW;have hX:Blk W w.heap.size 24 nm.cells:=by rw[hW];exact Blk.new w _ _
 have c8:W.cell? ⟨h,8,none⟩=some (I 2):=hkW.1.cell 8;have HRdy:=AA (Js s h m W hkW.1);obtain⟨b0,hb0⟩:∃b,b=Bb leaf 1:=⟨_,rfl⟩;obtain⟨b1,hb1⟩:∃b,b=Bb leaf 0:=⟨_,rfl⟩;have HA:Hid (Calls Tryz.prog 80 #[.slice none 0 0,.int .u64 (leaf:Int),.int .i64 2] W (CV W 5 1 2 ([b0,b1].map B))):=by
  have h:=I4 none 0 0 leaf [] W rfl Rd.nil (fun u hu=>by cases hu) (by omega);rw[hb0,hb1];exact h
 obtain⟨rt,hrt⟩:∃r,r=E8 5 (ES s 1 (leaf/32)):=⟨_,rfl⟩;obtain⟨p1,hp1⟩:∃p,p=GN s 1 (leaf/32) (leaf%32) nm:=⟨_,rfl⟩;obtain⟨p2,hp2⟩:∃p,p=GN s 2 0 (leaf/32) rt:=⟨_,rfl⟩;have hsig:EI s leaf nm=[b0,b1]++p1++p2:=by
  rw[EI,hp2,hrt,hp1,hb0,hb1];simp only[Bb,Nat.pow_one,Nat.pow_zero,Nat.div_one]
 obtain⟨sg,hsg⟩:∃sg,sg=EI s leaf nm:=⟨_,rfl⟩;have HSg:Hid (sg=[b0,b1]++p1++p2):=by unfold Hid;rw[hsg,hsig]
 have H1:Hid (∀A c V,Bc s h m V→V.ownsRow w.heap.size 5 1 (.slice A 2 c) 2 ([b0,b1].map B)→w.heap.size≤V.heap.size→Calls Tryz.prog 164 #[.pointer (some ⟨h,0,none⟩),.slice A 2 c,.int .i64 1,.int .i64 ((leaf:Int)/32),.int .i64 ((leaf:Int)%32),nm.val] V (JF s h m w.heap.size 2 ([b0,b1].map B) p1 V)):=fun A c V hV ho hs=>by
  rw[hp1];exact IB s nm h m 1 (leaf/32) (leaf%32) w.heap.size 2 c A _ V hV ho hs (by omega) (by omega) (Nat.mod_lt _ (by omega)) (by omega)
 have H2:Hid (∀A c V,Bc s h m V→V.ownsRow w.heap.size 5 1 (.slice A 186 c) 186 ([b0,b1].map B++p1.map B)→w.heap.size≤V.heap.size→Calls Tryz.prog 164 #[.pointer (some ⟨h,0,none⟩),.slice A 186 c,.int .i64 2,.int .i64 0,.int .i64 ((leaf:Int)/32),rt.val] V (JF s h m w.heap.size 186 ([b0,b1].map B++p1.map B) p2 V)):=fun A c V hV ho hs=>by
  rw[hp2];exact IB s rt h m 2 0 (leaf/32) w.heap.size 186 c A _ V hV ho hs (by omega) (by omega) (by omega) (by omega)
 have HTr:Hid (∀V,Bc s h m V→Calls Tryz.prog 92 #[.pointer (some ⟨h,0,none⟩),.int .i64 1,.int .i64 ((leaf:Int)/32)] V (JE s h m 1 (leaf/32) V)):=fun V hV=>Lr s h m 1 (leaf/32) V hV (by omega) (by omega)
 have HRt:Hid (∀V g,Ba V g 32 (ES s 1 (leaf/32))→Calls Tryz.prog 91 #[GO g] V (BT V rt)):=fun V g hN=>by
  rw[hrt];exact ET 5 (ES s 1 (leaf/32)) _ 32 32 V (Jt _ _ _) rfl (by omega) (by omega) (by unfold maxLen;omega) hN.rd
 have d0:decide ((leaf:Int)<0)=false:=by simp
 have d1:decide ((1024:Int)≤(leaf:Int))=false:=by simp;omega
 have hml:=Ls hk;have HK:=AA hkW;have HBW:=AA hbW;have HX:=AA hX;unfold Kf;rw[←hsg];clear hsig hsg hp1 hp2 hrt hb0 hb1 hk hkW hbW hX;obtain⟨q,hq⟩:∃q,q=w.heap.size:=⟨_,rfl⟩;rw[←hq]at HX;have HQ:Hid (q=w.heap.size):=hq;go_enter Tryz.func112,Tryz.ntmps112;go_upto_region 1 with fail
 rw[←hW,←hq];clear hW hq;go_upto_region 3 with(first
  |(go_at_call 90;refine HRdy.out.mono ?_;rintro en w2 ⟨rfl,hw2⟩;subst hw2)
  |(go_at_call 78;refine(FL _).mono ?_;rintro en w3 ⟨rfl,hw3⟩;subst hw3))
 try go_frame
 go_upto_region 4 with(go_at_call 80;refine HA.out.mono ?_;rintro en w4 ⟨A4,c4,rfl,hown4,hb4⟩)
 have x4:AK w4 q 0 8=some nm.cells:=(HX.out.below hb4 HX.out.lt).row 8 rfl;have HK4:=AA (HK.out.below hb4);have HO4:=AA (BF hown4 HBW.out.size);have HB4:=AA (HBW.out.trans (hb4.mono HBW.out.size));clear hown4 hb4 HX HA HRdy HK;try go_frame
 go_upto_region 5 with(go_at_call 164;refine(H1.out _ _ _ HK4.out HO4.out HB4.out.size).mono ?_;rintro en w5 ⟨A5,c5,rfl,hown5,hk5,hf5⟩)
 have c85:w5.cell? ⟨h,8,none⟩=some (I 2):=hk5.1.cell 8;have HK5:=AA hk5;have HO5:=AA hown5;have HF5:=AA ((KFr.below (m:=m) HB4.out (AB _)).trans hf5);clear hown5 hk5 hf5 x4 HK4 HO4 HB4 H1;try go_frame
 go_upto_region 7 with(first
  |(go_at_call 92;refine(HTr.out _ HK5.out).mono ?_;rintro en w6 ⟨g,rfl,hN6,hk6,hg6⟩)
  |(go_at_call 91;refine(HRt.out _ _ hN6).mono ?_;rintro en w7 ⟨rfl,hb7⟩;have hk7:=hk6.below hb7;have hown7:=BA (HO5.out.kept hg6 (.inr (Nr HK5.out HO5.out))) hb7 (AB _);have hs5:=HF5.out.size;have hF7:=HF5.out.trans ((KFr.grown hg6 hs5).trans (KFr.below (m:=m) hb7 (AF hs5 hg6.size))))
  |(go_at_call 164;refine(H2.out _ _ _ hk7 hown7 hF7.size).mono ?_;rintro en w8 ⟨A8,c8,rfl,hown8,hk8,hf8⟩))
 try go_frame
 go_wp2;go_ret2;rw[HQ.out];exact⟨A8,c8,rfl,by rw[HSg.out,Ac,Ac];exact hown8,hk8,(hF7.trans hf8).all⟩
theorem KP.at{s:Nm}{w w':World}{e:Ending}(h:KP w s e w'):∃hp m,e= .returned (.pointer (some ⟨hp,0,none⟩))∧w.heap.size≤m∧Bc s hp m w'∧Below w.heap.size w w':=by
 obtain⟨hp,m,rfl,_,hm,hne,hB,hM,hb⟩:=h;exact⟨hp,m,rfl,hm,⟨hB,hne,[],⟨#[],0,hM,rfl⟩,fun k v hk=>by cases hk⟩,hb⟩
end
end Go.Proofs.YtadllffeoibelaaGreat
