/-
  What these parts of the proof come to, functions walked and plain laws: GmMeth, Dec2, GmNewP, GmCho. No condition.
-/
import Derived.Test.YtadllffeoibelaaGreatS43
import Derived.Test.YtadllffeoibelaaGreatS42
import Derived.Test.YtadllffeoibelaaGreatS30
import Derived.Test.YtadllffeoibelaaGreatS27
import Derived.Deep.DeepCutAuto
import Derived.Test.YtadllffeoibelaaGreatS6
import Derived.Test.YtadllffeoibelaaGreatS12
import Derived.Test.YtadllffeoibelaaGreatS40
import Derived.Test.YtadllffeoibelaaGreatS11
import Derived.Test.YtadllffeoibelaaGreatS10
namespace Go.Proofs.YtadllffeoibelaaGreat
set_option maxRecDepth 100000
set_option maxHeartbeats 32000000
set_option linter.all false
section
open Go.RowKit
attribute [local go_sem ↓] Go.wp_at_zero Go.wp_at_succ An Au Av Aw
attribute [local go_sem] BD BH BI BJ AN AW AQ
theorem CK{Bs g:Nat}{w:World}{G:GmS}(h:A9 Bs w g G):Calls Tryz.prog 17 #[Am g] w fun e w'=>e= .returned (.int .i64 (G.ps.length:Int))∧w'=w:=by
 obtain⟨A,c,hv⟩:=Ar h.prow;obtain⟨n,hn⟩:∃n,G.ps.length=n:=⟨_,rfl⟩;rw[hn]at hv ⊢;have y1:w.cell? ⟨g,11,none⟩=some (.slice A n c):=by rw[←hv];exact h.blk.cell 11
 clear h hv hn;go_enter Tryz.func17,Tryz.ntmps17;go_wp2;go_ret;exact⟨rfl,rfl⟩
theorem A9.pcells{Bs g i b:Nat}{w:World}{G:GmS}{P:PrS}(h:A9 Bs w g G)(hi:G.ps[i]? =some (b,P)):∃pb pc,G.pv= .slice (some ⟨pb,0,none⟩) G.ps.length pc∧w.cell? ⟨g,11,none⟩=some (.slice (some ⟨pb,0,none⟩) G.ps.length pc)∧w.cell? ⟨pb,i,none⟩=some (Am b)∧i<G.ps.length:=by
 obtain⟨pb,pc,hpv,hpc,_,hpn⟩:=CF (i:=i) (u:=Am b) h.prow (by rw[AU,hi];rfl);exact⟨pb,pc,hpv,by rw[←hpv];exact h.blk.cell 11,hpc,hpn⟩
theorem Er{Bs g i b:Nat}{w:World}{G:GmS}{P:PrS}(h:A9 Bs w g G)(hi:G.ps[i]? =some (b,P)):Calls Tryz.prog 20 #[Am g,.int .i64 (i:Int)] w fun e w'=>e= .returned (.int .i64 (P.mem:Int))∧w'=w:=by
 have HP:=AA (CK h);obtain⟨pb,pc,_,y1,y2,hpn⟩:=h.pcells hi;have y3:w.cell? ⟨b,1,none⟩=some (.int .i64 (P.mem:Int)):=(h.prs _ _ hi).1.blk.cell 1;obtain⟨n,hn⟩:∃n,n=G.ps.length:=⟨_,rfl⟩;rw[←hn]at y1 hpn HP;have d1:decide ((i:Int)<0)=false:=by simp
 have d2:decide ((n:Int)≤(i:Int))=false:=by simp;omega
 clear h hi hn;go_enter Tryz.func20,Tryz.ntmps20;go_wp2_with (go_at_call 17;refine HP.out.mono ?_;rintro en w2 ⟨rfl,hw2⟩;replace hw2:=hw2.symm;subst hw2)
 go_ret;exact⟨rfl,rfl⟩
theorem Ox{Bs g:Nat}{w:World}{G:GmS}(h:A9 Bs w g G)(p:Int)(hp:p<0∨(G.ps.length:Int)≤p):Calls Tryz.prog 20 #[Am g,.int .i64 p] w fun e w'=>e= .returned (.int .i64 (-1))∧w'=w:=by
 have HP:=AA (CK h);obtain⟨n,hn⟩:∃n,n=G.ps.length:=⟨_,rfl⟩;rw[←hn]at hp HP;clear h hn;by_cases h0:p<0
 ·have d1:decide (p<0)=true:=by simpa using h0
  go_enter Tryz.func20,Tryz.ntmps20;go_wp2;go_ret;exact⟨rfl,rfl⟩
 ·have d1:decide (p<0)=false:=by simpa using h0
  have d2:decide ((n:Int)≤p)=true:=by simp;omega
  go_enter Tryz.func20,Tryz.ntmps20;go_wp2_with (go_at_call 17;refine HP.out.mono ?_;rintro en w2 ⟨rfl,hw2⟩;replace hw2:=hw2.symm;subst hw2)
  go_ret;exact⟨rfl,rfl⟩
def Qk(P:PrS)(w:World)(e:Ending)(w':World):Prop:=
 ∃v:Value,e= .returned (.tuple #[v,.bool P.dd])∧Below w.heap.size w w'∧(P.dd=true→w'.ownsRow w.heap.size 88 9 v P.dec.length (P.dec.flatMap chc))∧(P.dd=false→v= .slice none 0 0)
theorem Gg{Bs g i b:Nat}{w:World}{G:GmS}{P:PrS}(h:A9 Bs w g G)(hi:G.ps[i]? =some (b,P))(hsm:P.dec.length≤1000000):Calls Tryz.prog 18 #[Am g,.int .i64 (i:Int)] w (Qk P w):=by
 have HM:=AA (Er h hi);have HP:=(h.prs _ _ hi).1;obtain⟨pb,pc,_,y1,y2,hpn⟩:=h.pcells hi;obtain⟨A,c,hv,hr⟩:=BY HP.dec;have y3:w.cell? ⟨b,13,none⟩=some (.bool P.dd):=HP.blk.cell 13;have y4:w.cell? ⟨b,12,none⟩=some (.slice A P.dec.length c):=by rw[←hv];exact HP.blk.cell 12
 obtain⟨m,hm⟩:∃m,P.dec.length=m:=⟨_,rfl⟩;obtain⟨n,hn⟩:∃n,n=G.ps.length:=⟨_,rfl⟩;obtain⟨d,hd⟩:∃d,d=P.dd:=⟨_,rfl⟩;rw[←hn]at y1 hpn;rw[hm]at y4 hsm;rw[←hd]at y3;have HR:=AA hr;have HMl:=AA hm;have HD:=AA hd;have d1:decide ((P.mem:Int)<0)=false:=by simp
 clear h hi hn hr hv HP hm hd;go_enter Tryz.func18,Tryz.ntmps18;go_upto_region 1 with fail
 cases d with
 |false=>
  go_wp2_with (go_at_call 20;refine HM.out.mono ?_;rintro en w2 ⟨rfl,hw2⟩;replace hw2:=hw2.symm;subst hw2)
  go_ret2;exact⟨.slice none 0 0,by rw[←HD.out];rfl,AC _ _,fun h=>(by rw[←HD.out]at h;cases h),fun _=>rfl⟩
 |true=>
  go_wp2_with (first
   |(go_at_call 20;refine HM.out.mono ?_;rintro en w2 ⟨rfl,hw2⟩;replace hw2:=hw2.symm;subst hw2)
   |(at_builtin;refine Aq rfl (.const (.slice none 0 0)) (.tmp 32) _ rfl w.heap.size 88 Ch.zero.val 9 16 Tryz.underlying36 Nt rfl (by decide) (.slice none 0 0) 0 [] rfl ⟨by simp,.inl ⟨rfl,rfl⟩⟩ w.heap.size A m c (P.dec.flatMap chc) rfl (by rw[AX chc 9 P.dec (Ge P.dec),HMl.out]) HR.out (fun u hu=>by obtain⟨s,_,hs⟩:=List.mem_flatMap.1 hu;exact Qf s hs) (by omega) (by unfold maxLen;omega) (AB _) ?_;intro v3 w3 hown3 hg3 hat3))
  go_ret2;rw[Nat.zero_add,List.nil_append]at hown3;change w.grownBy w3 none at hg3;refine⟨v3,by rw[←HD.out];rfl,(AC _ w).grown hg3 (AB _) (fun k hk=>by cases hk),fun _=>by rw[HMl.out];exact hown3,fun h=>(by rw[←HD.out]at h;cases h)⟩
end
section
open Go.RowKit Go.Shelf
attribute [local go_sem ↓] Go.wp_at_zero Go.wp_at_succ An Au Av Aw Gq
attribute [local go_sem] BD BH BI BJ Jn AN AW AQ
def Nv(M:Int)(p:Nm)(l:List Vt)(i:Nat)(L:List Oc):Prop:=L.map (·.slot)=(CH (xOf M) i).map (fun k:Nat=>(k:Int))∧∀o∈L,∃L',I6 M p o.slot.toNat l (o::L')
def Oy(M:Int)(p:Nm)(l:List Vt)(L:List Oc)(b:Bool):Prop:=
 (b=true∧Nv M p l 10 L∧0<L.length)∨(b=false∧((∃i,i<10∧(xOf M).testBit i=true∧I6 M p i l [])∨CH (xOf M) 10=[]))
def Lz(M:Int)(p:Nm)(l:List Vt)(w:World)(e:Ending)(w':World):Prop:=
 ∃(v:Value) (L:List Oc) (b:Bool),e= .returned (.tuple #[v,.bool b])∧w'.ownsRow w.heap.size 142 11 v L.length (L.flatMap occ)∧Below w.heap.size w w'∧L.length≤10∧Oy M p l L b
def R6(M:Int)(p:Nm)(l:List Vt)(w:World)(v iv:Value)(wr:World):Prop:=
 ∃(i:Nat) (L:List Oc),iv= .int .i64 (i:Int)∧i≤10∧L.length≤i∧Nv M p l i L∧wr.ownsRow w.heap.size 142 11 v L.length (L.flatMap occ)∧Below w.heap.size w wr
theorem Oz(M:Int)(p:Nm)(A:Option Addr)(n c:Nat)(l:List Vt)(w0:World)(hn:l.length=n)(hr:Rd w0 w0.heap.size A (l.flatMap vtc))(hsm:n≤1000000)(hl:∀v∈l,Ae v):Calls Tryz.prog 43 #[.int .i64 M,p.val,.slice A n c] w0 (Lz M p l w0):=by
 obtain⟨w,hw⟩:∃wa,wa=w0.alloc (.cells p.cells 24):=⟨_,rfl⟩;have hb0:Below w0.heap.size w0 w:=by rw[hw];exact(AC _ _).alloc (AB _) _
 have hBq:Blk w w0.heap.size 24 p.cells:=by rw[hw];exact Blk.new w0 _ _
 obtain⟨q,hq⟩:∃q,q=w0.heap.size:=⟨_,rfl⟩;have HN:=AA hn;have HR:=AA ((hr.below hb0).more hb0.size);have HL:=AA hl;have HW:=AA hw;rw[←hq]at hBq;have HBq:=AA hBq;have hqw:q<w.heap.size:=hBq.lt;have HQ:=AA hq;have HHas:Hid (∀(i:Nat) (W:World),i<10→Calls Tryz.prog 19 #[.int .i64 M,.int .i64 (i:Int)] W fun e w'=>e= .returned (.bool ((xOf M).testBit i))∧w'=W):=fun i W hi=>Dv M i hi W
 have HOut:Hid (∀(s:Nat) (W:World),Below w.heap.size w W→(xOf M).testBit s=true→Calls Tryz.prog 79 #[.int .i64 M,p.val,.slice A n c,.int .i64 (s:Int)] W (I7 M p s l W)):=fun s W hW hs=>Lf M p A n c l s W HN.out ((HR.out.below hW).more hW.size) hsm HL.out hs
 clear hn hr hl hw hBq hq;go_enter Tryz.func43,Tryz.ntmps43;go_upto_region 1 with fail
 simp only[←HW.out,←HQ.out];go_wp2
 go_loopw [8,11] (fun v iv wr=>R6 M p l w v iv wr) (fun _ iv _=>10-(intOf iv).toNat)
 case atStart=>exact⟨0,[],rfl,Nat.zero_le _,AB _,⟨by simp[CH],fun s hs=>(List.not_mem_nil hs).elim⟩,⟨by simp,.inl ⟨rfl,rfl⟩⟩,AC _ _⟩
 case round=>
  obtain⟨i,L,rfl,hin,hLi,hL,hown,hbw⟩:=hrel;have HLd:=AA hL;have HOwn:=AA hown;have y1:AK wr q 0 8=some p.cells:=(HBq.out.below hbw hqw).row 8 rfl;clear hL hown;by_cases hi:i<10
  ·have di:decide ((i:Int)<10)=true:=by simp;omega
   obtain⟨k,hk⟩:∃k,k=(xOf M).testBit i:=⟨_,rfl⟩;have HK:=AA hk;have HHi:Hid (∀W,Calls Tryz.prog 19 #[.int .i64 M,.int .i64 (i:Int)] W fun e w'=>e= .returned (.bool k)∧w'=W):=fun W=>by rw[hk];exact HHas.out i W hi
   clear hk;go_wp2_with fail
   refine(HHi.out _).mono ?_;rintro en w5' ⟨rfl,hw5'⟩;replace hw5':=hw5'.symm;subst hw5';cases k with
   |false=>
    go_wp2;go_roundw
    case rel=>exact⟨i+1,L,by go_num,by omega,by omega,⟨by rw[ER HK.out.symm];exact HLd.out.1,HLd.out.2⟩,HOwn.out,hbw⟩
    case measure=>simp[intOf];omega
   |true=>
    go_wp2_with fail
    refine(HOut.out i _ hbw HK.out.symm).mono ?_;rintro en w2 ⟨v2,L2,rfl,hG2,hl2,hown2,hb2⟩;have hbw2:Below w.heap.size w w2:=hbw.trans (hb2.mono hbw.size);have HOwn2:Hid (w2.ownsRow w.heap.size 142 11 u8 L.length (L.flatMap occ)):=BA HOwn.out hb2 (AB _);rcases FD hown2 with⟨rfl,h0,_⟩|⟨g,cap,T,rfl,hg,hblk,hcap⟩
    ·have HG:Hid (I6 M p i l []):=by unfold Hid;rw[AV h0]at hG2;exact hG2
     clear hG2 hown2 y1 hl2 h0;go_wp2;go_ret2;exact⟨_,[],false,rfl,⟨by simp,.inl ⟨rfl,rfl⟩⟩,hb0.trans (hbw2.mono hb0.size),by simp,.inr ⟨rfl,.inl ⟨i,hi,HK.out.symm,HG.out⟩⟩⟩
    ·rcases L2 with _|⟨x,L2⟩
     ·have HG:=AA hG2;clear hG2 hown2 y1 hl2 hblk;simp only[List.length_nil];go_wp2;go_ret2;exact⟨_,[],false,rfl,⟨by simp,.inl ⟨rfl,rfl⟩⟩,hb0.trans (hbw2.mono hb0.size),by simp,.inr ⟨rfl,.inl ⟨i,hi,HK.out.symm,HG.out⟩⟩⟩
     ·have x3:AK w2 g 0 11=some x.cells:=by
       have h:=Bx.oc (T:=T) (w0:=w2) (i:=0) ⟨hblk,Ai w2 g⟩ (show(x::L2)[0]? =some x from rfl);simpa using h
      have HX:Hid (x.slot=(i:Int)∧∃L',I6 M p x.slot.toNat l (x::L')):=by
       have hs:x.slot=(i:Int):=by obtain⟨O2,_,h2,_⟩:=hG2;exact(h2 x BB).1
       exact⟨hs,L2,by rw[hs];exact hG2⟩
      obtain⟨m,hm⟩:∃m,m=(x::L2).length:=⟨_,rfl⟩;have hm0:0<m:=by rw[hm];simp
      rw[←hm]at hcap ⊢;have dm:((m:Int)==0)=false:=by simp;omega
      clear hG2 hown2 hl2 hblk hm y1;go_wp2_with ((first
       |(refine BP rfl 103 142 (.tmp 29) rfl x.cells rfl Tryz.underlying103 (by kernel_rfl) (by decide) (by decide) ?_)
       |(at_builtin;refine Aq rfl (.tmp 26) (.tmp 30) _ rfl w.heap.size 142 (.agg Oc.zero.cells) 11 32 Tryz.underlying103 NQ rfl (by decide) u8 L.length (L.flatMap occ) rfl ?r0 (w2.heap.size+1) (some ⟨w2.heap.size,0,none⟩) 1 1 (occ x) rfl ?r1 ?r2 ?r3 ?r4 ?r5 ?r6 ?_)))
      case r0=>exact HOwn2.out.alloc _
      case r1=>rfl
      case r2=>exact Rd.mk (by omega) (fun j u hu=>by rw[Nat.zero_add,(Blk.new w2 _ _).cell];simpa using hu)
      case r3=>exact fun u hu=>KL x hu
      case r4=>omega
      case r5=>unfold maxLen;omega
      case r6=>have:=hbw2.size;simp;omega
      intro v7 w7 hown7 hg7 hat7;have hbw7:Below w.heap.size w w7:=BL (hbw2.alloc hbw2.size _) (HOwn2.out.alloc _) hg7;have HOwn7:=AA hown7;clear hown7 hg7 hat7 x3 HOwn2;go_wp2;go_roundw
      case rel=>
       refine⟨i+1,L++[x],by go_num,by omega,by rw[AI];simp;omega,⟨?_,?_⟩,?_,hbw7⟩
       ·rw[GL HK.out.symm,Ac,Ac,HLd.out.1];simp[HX.out.1]
       ·intro t ht;rcases AP.1 ht with ht|ht
        ·exact HLd.out.2 t ht
        ·rw[AR.1 ht];exact HX.out.2
       ·have h:=HOwn7.out;rw[AI,Ad];simpa using h
      case measure=>simp[intOf];omega
  ·have di:decide ((i:Int)<10)=false:=by simp;omega
   have hi10:i=10:=by omega
   have HI:=AA hi10;obtain⟨A1,c1,rfl,hc1⟩:∃A1 c1,u8= .slice A1 L.length c1∧True:=by
    rcases HOwn.out.2 with⟨rfl,h0⟩|⟨g,cap,cur,rfl,_⟩
    ·exact⟨none,0,by rw[h0],trivial⟩
    ·exact⟨_,cap,rfl,trivial⟩
   clear hi10 hc1;obtain⟨m,hm⟩:∃m,m=L.length:=⟨_,rfl⟩;rw[←hm];have HM:=AA hm;clear hm;go_wp2;go_ret2;refine⟨_,L,_,rfl,by have h:=BF HOwn.out hb0.size;rw[←HM.out]at h ⊢;exact h,hb0.trans (hbw.mono hb0.size),by omega,?_⟩;unfold Oy;rw[←HM.out];by_cases hz:0<m
   ·exact .inl ⟨by simpa using hz,by have h:=HLd.out;rw[HI.out]at h;exact h,hz⟩
   ·refine .inr ⟨by simpa using hz,.inr ?_⟩;have h:=HLd.out.1;rw[HI.out]at h;have h2:=congrArg List.length h;rw[AY,AY,←HM.out]at h2;exact AV (by omega)
end
section
open Go.RowKit
def TyB(w:World)(o:Option Nat)(T:TypeId):Prop:=∀k,o=some k→∃cs,Blk w k T cs
theorem TyB.off{w:World}{k:Nat}{t T:TypeId}(h:TyB w (some k) T)(ht:t≠T):Off w k t:=by
 obtain⟨cs,hB⟩:=h k rfl;exact .blk hB (fun e=>ht e.symm)
theorem Bd{w:World}{base e size n:Nat}{v:Value}{xs:List Value}(h:w.ownsRow base e size v n xs):TyB w v.ownBlock e:=fun k hk=>by
 rcases h.2 with⟨rfl,_⟩|⟨g,cap,cur,rfl,_,hh,_⟩
 ·simp[Value.ownBlock]at hk
 ·have:g=k:=by simpa[Value.ownBlock]using hk
  subst this;exact⟨cur,hh⟩
theorem Nw{w:World}{g T:Nat}{cs:Array Value}(h:Blk w g T cs):TyB w (some g) T:=fun k hk=>by
 injection hk with hk
 subst hk;exact⟨cs,h⟩
section
variable {w w':World}{o:Option Nat}{T:TypeId}
theorem Br{base e size n:Nat}{v:Value}{xs:List Value}(h:w.ownsRow base e size v n xs)(hg:w.grownBy w' o)(ho:TyB w o T)(he:e≠T):w'.ownsRow base e size v n xs:=by
 cases o with
 |none=>exact BZ h hg (fun k hk=>by cases hk)
 |some k=>exact BO h hg (ho.off he)
theorem Blk.offB{g t:Nat}{cs:Array Value}(h:Blk w g t cs)(hg:w.grownBy w' o)(ho:TyB w o T)(ht:t≠T):Blk w' g t cs:=by
 cases o with
 |none=>exact h.kept hg (by simp)
 |some k=>exact h.off hg (ho.off ht)
theorem Bc.offB{s:Nm}{h m:Nat}(hk:Bc s h m w)(hg:w.grownBy w' o)(ho:TyB w o T)(h1:24≠T)(h2:152≠T):Bc s h m w':=by
 cases o with
 |none=>
  obtain⟨a1,a2,tl,a3,a4⟩:=hk;exact⟨a1.kept hg (by simp),a2,tl,a3.kept hg (by simp),fun a b hab=>by
   obtain⟨l,n,g,e1,e2,e3⟩:=a4 a b hab;exact⟨l,n,g,e1,e2,e3.kept hg (by simp)⟩⟩
 |some k=>
  refine hk.off hg (fun e=>?_) (ho.off h1) (ho.off h2);obtain⟨_,_,tl,a3,_⟩:=hk;obtain⟨cs,hB⟩:=ho k rfl;exact(Off.map a3:Off w m T) _ (e▸hB)
theorem Cu.offB{Bs b:Nat}{P:PrS}(h:Cu Bs w b P)(hg:w.grownBy w' o)(ho:TyB w o T)(h0:97≠T)(h1:62≠T)(h2:5≠T)(h3:88≠T):Cu Bs w' b P:=
 ⟨h.blk.offB hg ho h0,Br h.row hg ho h1,fun s hs=>⟨(h.sgs s hs).1,Br (h.sgs s hs).2.1 hg ho h2,(h.sgs s hs).2.2⟩,Br h.dec hg ho h3⟩
end
def M2(T:TypeId):Prop:=24≠T∧152≠T∧97≠T∧62≠T∧5≠T∧88≠T∧46≠T
section
variable {Bs g:Nat}{w w1:World}{G:GmS}{o:Option Nat}{T:TypeId}
theorem A9.farK(h:A9 Bs w g G)(hg:w.grownBy w1 o)(ho:TyB w o T)(hT:M2 T):∀(i:Nat) (k:KyS),G.ks[i]? =some k→Bc k.seed k.h k.m w1∧Bs≤k.m:=fun i k hk=>⟨(h.keys i k hk).1.offB hg ho hT.1 hT.2.1,(h.keys i k hk).2⟩
theorem A9.farP(h:A9 Bs w g G)(hg:w.grownBy w1 o)(ho:TyB w o T)(hT:M2 T):∀(i:Nat) (p:Nat×PrS),G.ps[i]? =some p→Cu Bs w1 p.1 p.2∧Bs≤p.1:=fun i p hp=>⟨(h.prs i p hp).1.offB hg ho hT.2.2.1 hT.2.2.2.1 hT.2.2.2.2.1 hT.2.2.2.2.2.1,(h.prs i p hp).2⟩
theorem A9.farS(h:A9 Bs w g G)(hg:w.grownBy w1 o)(ho:TyB w o T)(hT:M2 T):∀(i:Nat) (x:Value×List Vt),G.sg[i]? =some x→w1.ownsRow Bs 46 22 x.1 x.2.length (x.2.flatMap vtc):=fun i x hx=>Br (h.sgs i x hx) hg ho hT.2.2.2.2.2.2
theorem DY{α:Type}{l:List α}{a b:α}{i:Nat}(h:(l++[a])[i]? =some b):l[i]? =some b∨(i=l.length∧b=a):=by
 rw[List.getElem?_append]at h;by_cases hi:i<l.length
 ·rw[if_pos hi]at h;exact .inl h
 ·rw[if_neg hi]at h;have:i-l.length=0:=by
   have:=(AG.1 h).1;simp at this;omega
  rw[this]at h;simp at h;exact .inr ⟨by omega,h.symm⟩
theorem A9.addK{kv':Value}{k:KyS}(h:A9 Bs w g G)(hg:w.grownBy w1 G.kv.ownBlock)(hown:w1.ownsRow Bs 112 1 kv' (G.ks.length+1) ((G.ks.map fun k=>Am k.h)++[Am k.h]))(hk:Bc k.seed k.h k.m w1∧Bs≤k.m)(hn:∀k'∈G.ks,k'.m≠k.m):A9 Bs (w1.setCell ⟨g,10,none⟩ kv') g {G with kv:=kv',ks:=G.ks++[k]}∧w1.grownBy (w1.setCell ⟨g,10,none⟩ kv') (some g):=by
 have hT:=Bd h.krow;have fT:M2 112:=⟨by decide,by decide,by decide,by decide,by decide,by decide,by decide⟩;have hB:=h.blk.offB hg hT (by decide);have hg2:w1.grownBy (w1.setCell ⟨g,10,none⟩ kv') (some g):=Bi (p:=⟨g,10,none⟩) (Ai w1 g) rfl _;have hT2:=Nw hB;have fG:M2 93:=⟨by decide,by decide,by decide,by decide,by decide,by decide,by decide⟩;have a1:=h.farK hg hT fT;have a2:=h.farP hg hT fT;have a3:=h.farS hg hT fT;refine⟨⟨hB.put 10 kv',?_,Br (Br h.prow hg hT (by decide)) hg2 hT2 (by decide),Br (Br h.srow hg hT (by decide)) hg2 hT2 (by decide),fun i k' hk'=>?_,fun i p hp=>⟨(a2 i p hp).1.offB hg2 hT2 fG.2.2.1 fG.2.2.2.1 fG.2.2.2.2.1 fG.2.2.2.2.2.1,(a2 i p hp).2⟩,fun i x hx=>Br (a3 i x hx) hg2 hT2 fG.2.2.2.2.2.2,fun i j k1 k2 h1 h2 he=>?_,h.pn,h.sn⟩,hg2⟩
 ·have:=Br hown hg2 hT2 (by decide);show World.ownsRow _ Bs _ 1 kv' (G.ks++[k]).length ((G.ks++[k]).map fun k=>Am k.h);rw[AI,Ac];exact this
 ·rcases DY hk' with hk'|⟨_,rfl⟩
  ·exact⟨(a1 i k' hk').1.offB hg2 hT2 fG.1 fG.2.1,(a1 i k' hk').2⟩
  ·exact⟨hk.1.offB hg2 hT2 fG.1 fG.2.1,hk.2⟩
 ·rcases DY h1 with g1|⟨e1,e1'⟩
  ·rcases DY h2 with g2|⟨e2,e2'⟩
   ·exact h.kn i j k1 k2 g1 g2 he
   ·rw[e2']at he;exact absurd he (hn k1 (AM g1))
  ·rcases DY h2 with g2|⟨e2,e2'⟩
   ·rw[e1']at he;exact absurd he.symm (hn k2 (AM g2))
   ·omega
theorem A9.addP{pv':Value}{b:Nat}{P:PrS}(h:A9 Bs w g G)(hg:w.grownBy w1 G.pv.ownBlock)(hown:w1.ownsRow Bs 98 1 pv' (G.ps.length+1) ((G.ps.map fun p=>Am p.1)++[Am b]))(hP:Cu Bs w1 b P∧Bs≤b)(hn:∀p∈G.ps,p.1≠b):A9 Bs (w1.setCell ⟨g,11,none⟩ pv') g {G with pv:=pv',ps:=G.ps++[(b,P)]}∧w1.grownBy (w1.setCell ⟨g,11,none⟩ pv') (some g):=by
 have hT:=Bd h.prow;have fT:M2 98:=⟨by decide,by decide,by decide,by decide,by decide,by decide,by decide⟩;have hB:=h.blk.offB hg hT (by decide);have hg2:w1.grownBy (w1.setCell ⟨g,11,none⟩ pv') (some g):=Bi (p:=⟨g,11,none⟩) (Ai w1 g) rfl _;have hT2:=Nw hB;have fG:M2 93:=⟨by decide,by decide,by decide,by decide,by decide,by decide,by decide⟩;have a1:=h.farK hg hT fT;have a2:=h.farP hg hT fT;have a3:=h.farS hg hT fT;refine⟨⟨hB.put 11 pv',Br (Br h.krow hg hT (by decide)) hg2 hT2 (by decide),?_,Br (Br h.srow hg hT (by decide)) hg2 hT2 (by decide),fun i k hk=>⟨(a1 i k hk).1.offB hg2 hT2 fG.1 fG.2.1,(a1 i k hk).2⟩,fun i p hp=>?_,fun i x hx=>Br (a3 i x hx) hg2 hT2 fG.2.2.2.2.2.2,h.kn,fun i j p1 p2 h1 h2 he=>?_,h.sn⟩,hg2⟩
 ·have:=Br hown hg2 hT2 (by decide);show World.ownsRow _ Bs _ 1 pv' (G.ps++[(b,P)]).length ((G.ps++[(b,P)]).map fun p=>Am p.1);rw[AI,Ac];exact this
 ·rcases DY hp with hp|⟨_,rfl⟩
  ·exact⟨(a2 i p hp).1.offB hg2 hT2 fG.2.2.1 fG.2.2.2.1 fG.2.2.2.2.1 fG.2.2.2.2.2.1,(a2 i p hp).2⟩
  ·exact⟨hP.1.offB hg2 hT2 fG.2.2.1 fG.2.2.2.1 fG.2.2.2.2.1 fG.2.2.2.2.2.1,hP.2⟩
 ·rcases DY h1 with g1|⟨e1,e1'⟩
  ·rcases DY h2 with g2|⟨e2,e2'⟩
   ·exact h.pn i j p1 p2 g1 g2 he
   ·rw[e2']at he;exact absurd he (hn p1 (AM g1))
  ·rcases DY h2 with g2|⟨e2,e2'⟩
   ·rw[e1']at he;exact absurd he.symm (hn p2 (AM g2))
   ·omega
end
end
section
open Go.RowKit
attribute [local go_sem ↓] Go.wp_at_zero Go.wp_at_succ An Au Av Aw
attribute [local go_sem] BD BH BI BJ AN AW AQ
def inM(M:Int)(i:Nat):Bool:=M/((2^i:Nat):Int)%2==1
def Cj(M:Int)(n:Nat):List Nat:=(List.range n).filter fun i=>inM M i
theorem Ql{M:Int}{n:Nat}(h:inM M n=true):Cj M (n+1)=Cj M n++[n]:=by simp[Cj,List.range_succ,List.filter_append,h]
theorem O0{M:Int}{n:Nat}(h:inM M n=false):Cj M (n+1)=Cj M n:=by simp[Cj,List.range_succ,List.filter_append,h]
theorem L3(M:Int)(n:Nat):(Cj M n).length≤n:=by
 have:=List.length_filter_le (fun i=>inM M i) (List.range n);rw[List.length_range]at this;exact this
theorem Gh{M:Int}{n i:Nat}:i∈Cj M n↔i<n∧inM M i=true:=by simp[Cj]
def GmS.bk(G:GmS)(i:Nat):Nat:=(G.ps.map (·.1)).getD i 0
theorem GmS.bk_of{G:GmS}{i b:Nat}{P:PrS}(h:G.ps[i]? =some (b,P)):G.bk i=b:=by
 unfold GmS.bk;rw[List.getD_eq_getElem?_getD,AU,h];rfl
theorem Qm:(Tryz.prog.info? 98).map (fun i=>(i.zero,i.size,i.bytes))=some (some (.pointer none),1,8):=by kernel_rfl
def R7(G:GmS)(M:Int)(w:World)(e:Ending)(w':World):Prop:=
 ∃v:Value,e= .returned v∧w'.ownsRow w.heap.size 98 1 v (Cj M G.ps.length).length ((Cj M G.ps.length).map fun i=>Am (G.bk i))∧Below w.heap.size w w'
theorem M3{Bs g:Nat}{w:World}{G:GmS}(h:A9 Bs w g G)(M:Int)(hn:G.ps.length≤20):Calls Tryz.prog 41 #[Am g,.int .i64 M] w (R7 G M w):=by
 obtain⟨A,c,hv⟩:=Ar h.prow;obtain⟨n,hnn⟩:∃n,n=G.ps.length:=⟨_,rfl⟩;rw[←hnn]at hv hn;have y1:w.cell? ⟨g,11,none⟩=some (.slice A n c):=by rw[←hv];exact h.blk.cell 11
 have HC:Hid (∀i,i<n→∃pb,A=some ⟨pb,0,none⟩∧pb<w.heap.size∧w.cell? ⟨pb,i,none⟩=some (Am (G.bk i))):=fun i hi=>by
  obtain⟨⟨b,P⟩,hp⟩:∃x,G.ps[i]? =some x:=⟨_,AE (by omega)⟩;obtain⟨pb,pc,e,_,x2,_⟩:=h.pcells hp;rw[hv]at e;injection e with e _ _
  have hB:=CF (i:=i) (u:=Am b) h.prow (by rw[AU,hp];rfl);obtain⟨pb',_,e',_,⟨cs,hB⟩,_⟩:=hB;rw[hv]at e';injection e' with e' _ _
  rw[e]at e';injection e' with e'
  injection e' with e'
  subst e';exact⟨pb,e,hB.lt,by rw[GmS.bk_of hp];exact x2⟩
 have HNn:=AA hnn;clear h hv hnn;go_enter Tryz.func41,Tryz.ntmps41;go_wp2
 go_loopw [5,13] (fun v iv wr=>∃i:Nat,iv= .int .i64 (i:Int)∧i≤n∧wr.ownsRow w.heap.size 98 1 v (Cj M i).length ((Cj M i).map fun i=>Am (G.bk i))∧Below w.heap.size w wr) (fun _ iv _=>n-(intOf iv).toNat)
 case atStart=>exact⟨0,rfl,Nat.zero_le _,⟨by simp[Cj],.inl ⟨rfl,rfl⟩⟩,AC _ _⟩
 case round=>
  obtain⟨i,rfl,hin,hown,hb⟩:=hrel;have HOwn:=AA hown;clear hown;by_cases hi:i<n
  ·have di:decide ((i:Int)<(n:Int))=true:=by simp;omega
   obtain⟨pb,rfl,hpb,hc⟩:=HC.out i hi;have x1:wr.cell? ⟨pb,i,none⟩=some (Am (G.bk i)):=by rw[hb.cell (p:=⟨pb,i,none⟩) hpb];exact hc
   have hl:=L3 M i;obtain⟨d,hd⟩:∃d,d=inM M i:=⟨_,rfl⟩;have hbit:(bits .and .i64 (M/2^i) 1==1)=d:=by
    have e:(2:Int)^i=((2^i:Nat):Int):=by simp
    rw[e,PR,hd];rfl
   have HD:=AA hd;clear hd hc;cases d with
   |true=>
    go_wp2_with ((at_builtin;refine Aq rfl (.tmp 23) (.tmp 25) _ rfl w.heap.size 98 (.pointer none) 1 8 Tryz.underlying91 Qm rfl (by decide) u5 (Cj M i).length ((Cj M i).map fun i=>Am (G.bk i)) rfl ?r0 (wr.heap.size+1) (some ⟨wr.heap.size,0,none⟩) 1 1 [Am (G.bk i)] rfl rfl ?r1 ?r2 ?r3 ?r4 ?r5 ?_))
    case r0=>exact HOwn.out.alloc _
    case r1=>exact Rd.mk (by omega) (fun j u hu=>by rw[Nat.zero_add,(Blk.new wr _ _).cell];simpa using hu)
    case r2=>intro u hu;simp at hu;subst hu;rfl
    case r3=>omega
    case r4=>unfold maxLen;omega
    case r5=>have:=hb.size;simp;omega
    intro v7 w7 hown7 hg7 hat7;have hb7:=BL (hb.alloc hb.size _) (HOwn.out.alloc _) hg7;have HOwn7:Hid (w7.ownsRow w.heap.size 98 1 v7 (Cj M (i+1)).length ((Cj M (i+1)).map fun i=>Am (G.bk i))):=by
     unfold Hid;rw[Ql HD.out.symm,AI,Ac];exact hown7
    clear hown7 hg7 hat7;go_wp2;go_roundw
    case rel=>exact⟨i+1,by go_num,by omega,HOwn7.out,hb7⟩
    case measure=>simp[intOf];omega
   |false=>
    have HOwn7:Hid (wr.ownsRow w.heap.size 98 1 u5 (Cj M (i+1)).length ((Cj M (i+1)).map fun i=>Am (G.bk i))):=by
     unfold Hid;rw[O0 HD.out.symm];exact HOwn.out
    go_wp2;go_roundw
    case rel=>exact⟨i+1,by go_num,by omega,HOwn7.out,hb⟩
    case measure=>simp[intOf];omega
  ·have di:decide ((i:Int)<(n:Int))=false:=by simp;omega
   have hin':i=G.ps.length:=by rw[←HNn.out];omega
   have HOwn7:Hid (wr.ownsRow w.heap.size 98 1 u5 (Cj M G.ps.length).length ((Cj M G.ps.length).map fun i=>Am (G.bk i))):=by
    unfold Hid;rw[←hin'];exact HOwn.out
   clear hin';go_wp2;go_ret;exact⟨_,rfl,HOwn7.out,hb⟩
end
end Go.Proofs.YtadllffeoibelaaGreat
