/-
  Parts of the proof. No condition.
-/
import Derived.Test.YtadllffeoibelaaGreatS21
import Derived.Deep.CutBlock
open Go.Proofs.Tryz
namespace Go.Proofs.YtadllffeoibelaaGreat
set_option maxRecDepth 100000
set_option maxHeartbeats 32000000
set_option linter.all false
section
open Go.RowKit Go.Shelf
attribute [local go_sem ↓] Go.wp_at_zero Go.wp_at_succ Aj Ao Ap Aq JR
attribute [local go_sem] Ax BB BC BD MQ AK AR AN
def Qq(M:Int)(p:Nm)(l:List Vt)(i:Nat)(L:List Oc):Prop:=L.map (·.slot)=(CV (xOf M) i).map (fun k:Nat=>(k:Int))/\∀o∈L,∃L',KZ M p o.slot.toNat l (o::L')
def Rt(M:Int)(p:Nm)(l:List Vt)(L:List Oc)(b:Bool):Prop:=
 (b=true/\Qq M p l 10 L/\0<L.length)∨(b=false/\((∃i,i<10/\(xOf M).testBit i=true/\KZ M p i l [])∨CV (xOf M) 10=[]))
def N7(M:Int)(p:Nm)(l:List Vt)(w:World)(e:Ending)(w':World):Prop:=
 ∃(v:Value) (L:List Oc) (b:Bool),e= .returned (.tuple #[v,.bool b])/\w'.ownsRow w.heap.size 142 11 v L.length (L.flatMap occ)/\ZN w w'/\L.length<=10/\Rt M p l L b
def Vk(M:Int)(p:Nm)(l:List Vt)(w:World)(v iv:Value)(wr:World):Prop:=
 ∃(i:Nat) (L:List Oc),iv= .int .i64 (i:Int)/\i<=10/\L.length<=i/\Qq M p l i L/\wr.ownsRow w.heap.size 142 11 v L.length (L.flatMap occ)/\ZN w wr
theorem Ru(M:Int)(p:Nm)(A:Option Addr)(n c:Nat)(l:List Vt)(w0:World)(hn:l.length=n)(hr:Rd w0 w0.heap.size A (l.flatMap vtc))(hsm:n<=1000000)(hl:∀v∈l,Ab v):Calls prog 43 #[.int .i64 M,p.val,.slice A n c] w0 (N7 M p l w0):=by
 obtain⟨w,hw⟩:=ZH (w0.alloc (.cells p.cells 24));have hb0:ZN w0 w:=by rw[hw];exact(AC _ _).alloc (AB _) _
 have hBq:Blk w w0.heap.size 24 p.cells:=by rw[hw];exact Blk.new w0 _ _
 obtain⟨q,hq⟩:=ZH w0.heap.size;have HN:=AA hn;have HR:=AA ((hr.below hb0).more hb0.size);have HL:=AA hl;have HW:=AA hw;rw[<-hq]at hBq;have HBq:=AA hBq;have hqw:q<w.heap.size:=hBq.lt;have HQ:=AA hq;have zw:Hid (∀(i:Nat) (W:World),i<10->Calls prog 19 #[.int .i64 M,.int .i64 (i:Int)] W fun e w'=>e= .returned (.bool ((xOf M).testBit i))/\w'=W):=fun i W hi=>Ff M i hi W
 have hDz:Hid (∀(s:Nat) (W:World),ZN w W->(xOf M).testBit s=true->Calls prog 79 #[.int .i64 M,p.val,.slice A n c,.int .i64 (s:Int)] W (Ka M p s l W)):=fun s W hW hs=>Ni M p A n c l s W HN.out ((HR.out.below hW).more hW.size) hsm HL.out hs
 clear hn hr hl hw hBq hq;go_enter func43,ntmps43;go_upto_region 1 with fail
 simp only[<-HW.out,<-HQ.out];go_wp2
 go_loopw [8,11] (fun v iv wr=>Vk M p l w v iv wr) (fun _ iv _=>10-(intOf iv).toNat)
 case atStart=>exact⟨0,[],rfl,Nat.zero_le _,AB _,⟨by simp[CV],fun s hs=>(List.not_mem_nil hs).elim⟩,⟨by simp,.inl ⟨rfl,rfl⟩⟩,AC _ _⟩
 case round=>
  obtain⟨i,L,rfl,hin,hLi,hL,xA,hbw⟩:=hrel;have HLd:=AA hL;have xK:=AA xA;have y1:AJ wr q 0 8=some p.cells:=(HBq.out.below hbw hqw).row 8 rfl;clear hL xA;by_cases hi:i<10
  ·have di:decide ((i:Int)<10)=true:=by simp;omega
   obtain⟨k,hk⟩:=ZH ((xOf M).testBit i);have HK:=AA hk;have HHi:Hid (∀W,Calls prog 19 #[.int .i64 M,.int .i64 (i:Int)] W fun e w'=>e= .returned (.bool k)/\w'=W):=fun W=>by rw[hk];exact zw.out i W hi
   clear hk;go_wp2_with fail
   refine(HHi.out _).mono ?_;rintro en w5' ⟨rfl,xp⟩;replace xp:=xp.symm;subst xp;cases k with
   |false=>
    go_wp2;go_roundw
    case rel=>exact⟨i+1,L,by go_num,by omega,by omega,⟨by rw[Fg HK.out.symm];exact HLd.out.1,HLd.out.2⟩,xK.out,hbw⟩
    case measure=>simp[intOf];omega
   |true=>
    go_wp2_with fail
    refine(hDz.out i _ hbw HK.out.symm).mono ?_;rintro en w2 ⟨v2,L2,rfl,hG2,hl2,xG,hb2⟩;have xB:ZN w w2:=hbw.trans (hb2.mono hbw.size);have yD:Hid (w2.ownsRow w.heap.size 142 11 u8 L.length (L.flatMap occ)):=Ay xK.out hb2 (AB _);rcases GH xG with⟨rfl,h0,_⟩|⟨g,cap,T,rfl,hg,xm,zx⟩
    ·have HG:Hid (KZ M p i l []):=by unfold Hid;rw[AV h0]at hG2;exact hG2
     clear hG2 xG y1 hl2 h0;go_wp2;go_ret2;exact⟨_,[],false,rfl,⟨by simp,.inl ⟨rfl,rfl⟩⟩,hb0.trans (xB.mono hb0.size),by simp,.inr ⟨rfl,.inl ⟨i,hi,HK.out.symm,HG.out⟩⟩⟩
    ·rcases L2 with _|⟨x,L2⟩
     ·have HG:=AA hG2;clear hG2 xG y1 hl2 xm;simp only[List.length_nil];go_wp2;go_ret2;exact⟨_,[],false,rfl,⟨by simp,.inl ⟨rfl,rfl⟩⟩,hb0.trans (xB.mono hb0.size),by simp,.inr ⟨rfl,.inl ⟨i,hi,HK.out.symm,HG.out⟩⟩⟩
     ·have x3:AJ w2 g 0 11=some x.cells:=by
       have h:=B3.oc (T:=T) (w0:=w2) (i:=0) ⟨xm,Am w2 g⟩ (show(x::L2)[0]? =some x from rfl);simpa using h
      have HX:Hid (x.slot=(i:Int)/\∃L',KZ M p x.slot.toNat l (x::L')):=by
       have hs:x.slot=(i:Int):=by obtain⟨O2,_,h2,_⟩:=hG2;exact(h2 x BF).1
       exact⟨hs,L2,by rw[hs];exact hG2⟩
      obtain⟨m,hm⟩:=ZH ((x::L2).length);have hm0:0<m:=by rw[hm];simp
      rw[<-hm]at zx ⊢;have dm:((m:Int)==0)=false:=by simp;omega
      clear hG2 xG hl2 xm hm y1;go_wp2_with ((first
       |(refine BS rfl 103 142 (.tmp 29) rfl x.cells rfl underlying103 (by kernel_rfl) (by decide) (by decide) ?_)
       |(at_builtin;refine Ar rfl (.tmp 26) (.tmp 30) _ rfl w.heap.size 142 (.agg Oc.zero.cells) 11 32 underlying103 RH rfl (by decide) u8 L.length (L.flatMap occ) rfl ?r0 (w2.heap.size+1) (some ⟨w2.heap.size,0,none⟩) 1 1 (occ x) rfl ?r1 ?r2 ?r3 ?r4 ?r5 ?r6 ?_)))
      case r0=>exact yD.out.alloc _
      case r1=>rfl
      case r2=>exact Rd.mk (by omega) (fun j u hu=>by rw[Nat.zero_add,(Blk.new w2 _ _).cell];simpa using hu)
      case r3=>exact fun u hu=>NA x hu
      case r4=>omega
      case r5=>unfold maxLen;omega
      case r6=>have:=xB.size;simp;omega
      intro v7 w7 xL hg7 xr;have yR:ZN w w7:=BJ (xB.alloc xB.size _) (yD.out.alloc _) hg7;have xU:=AA xL;clear xL hg7 xr x3 yD;go_wp2;go_roundw
      case rel=>
       refine⟨i+1,L++[x],by go_num,by omega,by rw[AF];simp;omega,⟨?_,?_⟩,?_,yR⟩
       ·rw[I4 HK.out.symm,Ae,Ae,HLd.out.1];simp[HX.out.1]
       ·intro t ht;rcases AP.1 ht with ht|ht
        ·exact HLd.out.2 t ht
        ·rw[AU.1 ht];exact HX.out.2
       ·have h:=xU.out;rw[AF,Af];simpa using h
      case measure=>simp[intOf];omega
  ·have di:decide ((i:Int)<10)=false:=by simp;omega
   have hAl:i=10:=by omega
   have HI:=AA hAl;obtain⟨A1,c1,rfl,hc1⟩:∃A1 c1,u8= .slice A1 L.length c1/\True:=by
    rcases xK.out.2 with⟨rfl,h0⟩|⟨g,cap,cur,rfl,_⟩
    ·exact⟨none,0,by rw[h0],trivial⟩
    ·exact⟨_,cap,rfl,trivial⟩
   clear hAl hc1;obtain⟨m,hm⟩:=ZH L.length;rw[<-hm];have HM:=AA hm;clear hm;go_wp2;go_ret2;refine⟨_,L,_,rfl,by have h:=BE xK.out hb0.size;rw[<-HM.out]at h ⊢;exact h,hb0.trans (hbw.mono hb0.size),by omega,?_⟩;unfold Rt;rw[<-HM.out];by_cases hz:0<m
   ·exact .inl ⟨by simpa using hz,by have h:=HLd.out;rw[HI.out]at h;exact h,hz⟩
   ·refine .inr ⟨by simpa using hz,.inr ?_⟩;have h:=HLd.out.1;rw[HI.out]at h;have h2:=congrArg List.length h;rw[AX,AX,<-HM.out]at h2;exact AV (by omega)
end
section
open Go.RowKit
def TyB(w:World)(o:Option Nat)(T:TypeId):Prop:=∀k,o=some k->∃cs,Blk w k T cs
theorem TyB.off{w:World}{k:Nat}{t T:TypeId}(h:TyB w (some k) T)(ht:t≠T):Off w k t:=by
 obtain⟨cs,hB⟩:=h k rfl;exact .blk hB (fun e=>ht e.symm)
theorem CD{w:World}{base e size n:Nat}{v:Value}{xs:List Value}(h:w.ownsRow base e size v n xs):TyB w v.ownBlock e:=fun k hk=>by
 rcases h.2 with⟨rfl,_⟩|⟨g,cap,cur,rfl,_,hh,_⟩
 ·simp[Value.ownBlock]at hk
 ·have:g=k:=by simpa[Value.ownBlock]using hk
  subst this;exact⟨cur,hh⟩
theorem Qr{w:World}{g T:Nat}{cs:Array Value}(h:Blk w g T cs):TyB w (some g) T:=fun k hk=>by
 injection hk with hk
 subst hk;exact⟨cs,h⟩
section
variable {w w':World}{o:Option Nat}{T:TypeId}
theorem Bh{base e size n:Nat}{v:Value}{xs:List Value}(h:w.ownsRow base e size v n xs)(hg:w.grownBy w' o)(ho:TyB w o T)(he:e≠T):w'.ownsRow base e size v n xs:=by
 cases o with
 |none=>exact Bb h hg (fun k hk=>by cases hk)
 |some k=>exact BR h hg (ho.off he)
theorem Blk.offB{g t:Nat}{cs:Array Value}(h:Blk w g t cs)(hg:w.grownBy w' o)(ho:TyB w o T)(ht:t≠T):Blk w' g t cs:=by
 cases o with
 |none=>exact h.kept hg (by simp)
 |some k=>exact h.off hg (ho.off ht)
theorem Bg.offB{s:Nm}{h m:Nat}(hk:Bg s h m w)(hg:w.grownBy w' o)(ho:TyB w o T)(h1:24≠T)(h2:152≠T):Bg s h m w':=by
 cases o with
 |none=>
  obtain⟨a1,a2,tl,a3,a4⟩:=hk;exact⟨a1.kept hg (by simp),a2,tl,a3.kept hg (by simp),fun a b hab=>by
   obtain⟨l,n,g,e1,e2,e3⟩:=a4 a b hab;exact⟨l,n,g,e1,e2,e3.kept hg (by simp)⟩⟩
 |some k=>
  refine hk.off hg (fun e=>?_) (ho.off h1) (ho.off h2);obtain⟨_,_,tl,a3,_⟩:=hk;obtain⟨cs,hB⟩:=ho k rfl;exact(Off.map a3:Off w m T) _ (e▸hB)
theorem DL.offB{Bs b:Nat}{P:PrS}(h:DL Bs w b P)(hg:w.grownBy w' o)(ho:TyB w o T)(h0:97≠T)(h1:62≠T)(h2:5≠T)(h3:88≠T):DL Bs w' b P:=
 ⟨h.blk.offB hg ho h0,Bh h.row hg ho h1,fun s hs=>⟨(h.sgs s hs).1,Bh (h.sgs s hs).2.1 hg ho h2,(h.sgs s hs).2.2⟩,Bh h.dec hg ho h3⟩
end
def PY(T:TypeId):Prop:=24≠T/\152≠T/\97≠T/\62≠T/\5≠T/\88≠T/\46≠T
section
variable {Bs g:Nat}{w w1:World}{G:GmS}{o:Option Nat}{T:TypeId}
theorem A9.farK(h:A9 Bs w g G)(hg:w.grownBy w1 o)(ho:TyB w o T)(hT:PY T):∀(i:Nat) (k:KyS),G.ks[i]? =some k->Bg k.seed k.h k.m w1/\Bs<=k.m:=fun i k hk=>⟨(h.keys i k hk).1.offB hg ho hT.1 hT.2.1,(h.keys i k hk).2⟩
theorem A9.farP(h:A9 Bs w g G)(hg:w.grownBy w1 o)(ho:TyB w o T)(hT:PY T):∀(i:Nat) (p:Nat×PrS),G.ps[i]? =some p->DL Bs w1 p.1 p.2/\Bs<=p.1:=fun i p hp=>⟨(h.prs i p hp).1.offB hg ho hT.2.2.1 hT.2.2.2.1 hT.2.2.2.2.1 hT.2.2.2.2.2.1,(h.prs i p hp).2⟩
theorem A9.farS(h:A9 Bs w g G)(hg:w.grownBy w1 o)(ho:TyB w o T)(hT:PY T):∀(i:Nat) (x:Value×List Vt),G.sg[i]? =some x->w1.ownsRow Bs 46 22 x.1 x.2.length (x.2.flatMap vtc):=fun i x hx=>Bh (h.sgs i x hx) hg ho hT.2.2.2.2.2.2
theorem D4{α:Type}{l:List α}{a b:α}{i:Nat}(h:(l++[a])[i]? =some b):l[i]? =some b∨(i=l.length/\b=a):=by
 rw[List.getElem?_append]at h;by_cases hi:i<l.length
 ·rw[if_pos hi]at h;exact .inl h
 ·rw[if_neg hi]at h;have:i-l.length=0:=by
   have:=(AE.1 h).1;simp at this;omega
  rw[this]at h;simp at h;exact .inr ⟨by omega,h.symm⟩
theorem A9.addK{kv':Value}{k:KyS}(h:A9 Bs w g G)(hg:w.grownBy w1 G.kv.ownBlock)(xA:w1.ownsRow Bs 112 1 kv' (G.ks.length+1) ((G.ks.map fun k=>Az k.h)++[Az k.h]))(hk:Bg k.seed k.h k.m w1/\Bs<=k.m)(hn:∀k'∈G.ks,k'.m≠k.m):A9 Bs (w1.setCell ⟨g,10,none⟩ kv') g {G with kv:=kv',ks:=G.ks++[k]}/\w1.grownBy (w1.setCell ⟨g,10,none⟩ kv') (some g):=by
 have hT:=CD h.krow;have fT:PY 112:=⟨by decide,by decide,by decide,by decide,by decide,by decide,by decide⟩;have hB:=h.blk.offB hg hT (by decide);have hg2:w1.grownBy (w1.setCell ⟨g,10,none⟩ kv') (some g):=Bl (p:=⟨g,10,none⟩) (Am w1 g) rfl _;have hT2:=Qr hB;have fG:PY 93:=⟨by decide,by decide,by decide,by decide,by decide,by decide,by decide⟩;have a1:=h.farK hg hT fT;have a2:=h.farP hg hT fT;have a3:=h.farS hg hT fT;refine⟨⟨hB.put 10 kv',?_,Bh (Bh h.prow hg hT (by decide)) hg2 hT2 (by decide),Bh (Bh h.srow hg hT (by decide)) hg2 hT2 (by decide),fun i k' hk'=>?_,fun i p hp=>⟨(a2 i p hp).1.offB hg2 hT2 fG.2.2.1 fG.2.2.2.1 fG.2.2.2.2.1 fG.2.2.2.2.2.1,(a2 i p hp).2⟩,fun i x hx=>Bh (a3 i x hx) hg2 hT2 fG.2.2.2.2.2.2,fun i j k1 k2 h1 h2 he=>?_,h.pn,h.sn⟩,hg2⟩
 ·have:=Bh xA hg2 hT2 (by decide);show World.ownsRow _ Bs _ 1 kv' (G.ks++[k]).length ((G.ks++[k]).map fun k=>Az k.h);rw[AF,Ae];exact this
 ·rcases D4 hk' with hk'|⟨_,rfl⟩
  ·exact⟨(a1 i k' hk').1.offB hg2 hT2 fG.1 fG.2.1,(a1 i k' hk').2⟩
  ·exact⟨hk.1.offB hg2 hT2 fG.1 fG.2.1,hk.2⟩
 ·rcases D4 h1 with g1|⟨e1,e1'⟩
  ·rcases D4 h2 with g2|⟨e2,e2'⟩
   ·exact h.kn i j k1 k2 g1 g2 he
   ·rw[e2']at he;exact absurd he (hn k1 (AM g1))
  ·rcases D4 h2 with g2|⟨e2,e2'⟩
   ·rw[e1']at he;exact absurd he.symm (hn k2 (AM g2))
   ·omega
theorem A9.addP{pv':Value}{b:Nat}{P:PrS}(h:A9 Bs w g G)(hg:w.grownBy w1 G.pv.ownBlock)(xA:w1.ownsRow Bs 98 1 pv' (G.ps.length+1) ((G.ps.map fun p=>Az p.1)++[Az b]))(hP:DL Bs w1 b P/\Bs<=b)(hn:∀p∈G.ps,p.1≠b):A9 Bs (w1.setCell ⟨g,11,none⟩ pv') g {G with pv:=pv',ps:=G.ps++[(b,P)]}/\w1.grownBy (w1.setCell ⟨g,11,none⟩ pv') (some g):=by
 have hT:=CD h.prow;have fT:PY 98:=⟨by decide,by decide,by decide,by decide,by decide,by decide,by decide⟩;have hB:=h.blk.offB hg hT (by decide);have hg2:w1.grownBy (w1.setCell ⟨g,11,none⟩ pv') (some g):=Bl (p:=⟨g,11,none⟩) (Am w1 g) rfl _;have hT2:=Qr hB;have fG:PY 93:=⟨by decide,by decide,by decide,by decide,by decide,by decide,by decide⟩;have a1:=h.farK hg hT fT;have a2:=h.farP hg hT fT;have a3:=h.farS hg hT fT;refine⟨⟨hB.put 11 pv',Bh (Bh h.krow hg hT (by decide)) hg2 hT2 (by decide),?_,Bh (Bh h.srow hg hT (by decide)) hg2 hT2 (by decide),fun i k hk=>⟨(a1 i k hk).1.offB hg2 hT2 fG.1 fG.2.1,(a1 i k hk).2⟩,fun i p hp=>?_,fun i x hx=>Bh (a3 i x hx) hg2 hT2 fG.2.2.2.2.2.2,h.kn,fun i j p1 p2 h1 h2 he=>?_,h.sn⟩,hg2⟩
 ·have:=Bh xA hg2 hT2 (by decide);show World.ownsRow _ Bs _ 1 pv' (G.ps++[(b,P)]).length ((G.ps++[(b,P)]).map fun p=>Az p.1);rw[AF,Ae];exact this
 ·rcases D4 hp with hp|⟨_,rfl⟩
  ·exact⟨(a2 i p hp).1.offB hg2 hT2 fG.2.2.1 fG.2.2.2.1 fG.2.2.2.2.1 fG.2.2.2.2.2.1,(a2 i p hp).2⟩
  ·exact⟨hP.1.offB hg2 hT2 fG.2.2.1 fG.2.2.2.1 fG.2.2.2.2.1 fG.2.2.2.2.2.1,hP.2⟩
 ·rcases D4 h1 with g1|⟨e1,e1'⟩
  ·rcases D4 h2 with g2|⟨e2,e2'⟩
   ·exact h.pn i j p1 p2 g1 g2 he
   ·rw[e2']at he;exact absurd he (hn p1 (AM g1))
  ·rcases D4 h2 with g2|⟨e2,e2'⟩
   ·rw[e1']at he;exact absurd he.symm (hn p2 (AM g2))
   ·omega
end
end
section
open Go.RowKit
attribute [local go_sem ↓] Go.wp_at_zero Go.wp_at_succ Aj Ao Ap Aq
attribute [local go_sem] Ax BB BC BD AK AR AN
def inM(M:Int)(i:Nat):Bool:=M/((2^i:Nat):Int)%2==1
def DM(M:Int)(n:Nat):List Nat:=(List.range n).filter fun i=>inM M i
theorem Tk{M:Int}{n:Nat}(h:inM M n=true):DM M (n+1)=DM M n++[n]:=by simp[DM,List.range_succ,List.filter_append,h]
theorem Rv{M:Int}{n:Nat}(h:inM M n=false):DM M (n+1)=DM M n:=by simp[DM,List.range_succ,List.filter_append,h]
theorem N8(M:Int)(n:Nat):(DM M n).length<=n:=by
 have:=List.length_filter_le (fun i=>inM M i) (List.range n);rw[List.length_range]at this;exact this
theorem N9{M:Int}{n i:Nat}:i∈DM M n↔i<n/\inM M i=true:=by simp[DM]
def GmS.bk(G:GmS)(i:Nat):Nat:=(G.ps.map (·.1)).getD i 0
theorem GmS.bk_of{G:GmS}{i b:Nat}{P:PrS}(h:G.ps[i]? =some (b,P)):G.bk i=b:=by
 unfold GmS.bk;rw[List.getD_eq_getElem?_getD,AQ,h];rfl
theorem Tl:(prog.info? 98).map (fun i=>(i.zero,i.size,i.bytes))=some (some (.pointer none),1,8):=by kernel_rfl
def Vm(G:GmS)(M:Int)(w:World)(e:Ending)(w':World):Prop:=
 ∃v:Value,e= .returned v/\w'.ownsRow w.heap.size 98 1 v (DM M G.ps.length).length ((DM M G.ps.length).map fun i=>Az (G.bk i))/\ZN w w'
theorem PZ{Bs g:Nat}{w:World}{G:GmS}(h:A9 Bs w g G)(M:Int)(hn:G.ps.length<=20):Calls prog 41 #[Az g,.int .i64 M] w (Vm G M w):=by
 obtain⟨A,c,hv⟩:=Av h.prow;obtain⟨n,hnn⟩:=ZH G.ps.length;rw[<-hnn]at hv hn;have y1:w.cell? ⟨g,11,none⟩=some (.slice A n c):=by rw[<-hv];exact h.blk.cell 11
 have HC:Hid (∀i,i<n->∃pb,A=some ⟨pb,0,none⟩/\pb<w.heap.size/\w.cell? ⟨pb,i,none⟩=some (Az (G.bk i))):=fun i hi=>by
  obtain⟨⟨b,P⟩,hp⟩:∃x,G.ps[i]? =some x:=⟨_,AD (by omega)⟩;obtain⟨pb,pc,e,_,x2,_⟩:=h.pcells hp;rw[hv]at e;injection e with e _ _
  have hB:=Cg (i:=i) (u:=Az b) h.prow (by rw[AQ,hp];rfl);obtain⟨pb',_,e',_,⟨cs,hB⟩,_⟩:=hB;rw[hv]at e';injection e' with e' _ _
  rw[e]at e';injection e' with e'
  injection e' with e'
  subst e';exact⟨pb,e,hB.lt,by rw[GmS.bk_of hp];exact x2⟩
 have HNn:=AA hnn;clear h hv hnn;go_enter func41,ntmps41;go_wp2
 go_loopw [5,13] (fun v iv wr=>∃i:Nat,iv= .int .i64 (i:Int)/\i<=n/\wr.ownsRow w.heap.size 98 1 v (DM M i).length ((DM M i).map fun i=>Az (G.bk i))/\ZN w wr) (fun _ iv _=>n-(intOf iv).toNat)
 case atStart=>exact⟨0,rfl,Nat.zero_le _,⟨by simp[DM],.inl ⟨rfl,rfl⟩⟩,AC _ _⟩
 case round=>
  obtain⟨i,rfl,hin,xA,hb⟩:=hrel;have xK:=AA xA;clear xA;by_cases hi:i<n
  ·have di:=ZK (show i<n by omega)
   obtain⟨pb,rfl,hpb,hc⟩:=HC.out i hi;have x1:wr.cell? ⟨pb,i,none⟩=some (Az (G.bk i)):=by rw[hb.cell (p:=⟨pb,i,none⟩) hpb];exact hc
   have hl:=N8 M i;obtain⟨d,hd⟩:=ZH (inM M i);have hbit:(bits .and .i64 (M/2^i) 1==1)=d:=by
    have e:(2:Int)^i=((2^i:Nat):Int):=by simp
    rw[e,Wv,hd];rfl
   have HD:=AA hd;clear hd hc;cases d with
   |true=>
    go_wp2_with ((at_builtin;refine Ar rfl (.tmp 23) (.tmp 25) _ rfl w.heap.size 98 (.pointer none) 1 8 underlying91 Tl rfl (by decide) u5 (DM M i).length ((DM M i).map fun i=>Az (G.bk i)) rfl ?r0 (wr.heap.size+1) (some ⟨wr.heap.size,0,none⟩) 1 1 [Az (G.bk i)] rfl rfl ?r1 ?r2 ?r3 ?r4 ?r5 ?_))
    case r0=>exact xK.out.alloc _
    case r1=>exact Rd.mk (by omega) (fun j u hu=>by rw[Nat.zero_add,(Blk.new wr _ _).cell];simpa using hu)
    case r2=>intro u hu;simp at hu;subst hu;rfl
    case r3=>omega
    case r4=>unfold maxLen;omega
    case r5=>have:=hb.size;simp;omega
    intro v7 w7 xL hg7 xr;have hb7:=BJ (hb.alloc hb.size _) (xK.out.alloc _) hg7;have xU:Hid (w7.ownsRow w.heap.size 98 1 v7 (DM M (i+1)).length ((DM M (i+1)).map fun i=>Az (G.bk i))):=by
     unfold Hid;rw[Tk HD.out.symm,AF,Ae];exact xL
    clear xL hg7 xr;go_wp2;go_roundw
    case rel=>exact⟨i+1,by go_num,by omega,xU.out,hb7⟩
    case measure=>simp[intOf];omega
   |false=>
    have xU:Hid (wr.ownsRow w.heap.size 98 1 u5 (DM M (i+1)).length ((DM M (i+1)).map fun i=>Az (G.bk i))):=by
     unfold Hid;rw[Rv HD.out.symm];exact xK.out
    go_wp2;go_roundw
    case rel=>exact⟨i+1,by go_num,by omega,xU.out,hb⟩
    case measure=>simp[intOf];omega
  ·have di:=ZL (show n<=i by omega)
   have hAt:i=G.ps.length:=by rw[<-HNn.out];omega
   have xU:Hid (wr.ownsRow w.heap.size 98 1 u5 (DM M G.ps.length).length ((DM M G.ps.length).map fun i=>Az (G.bk i))):=by
    unfold Hid;rw[<-hAt];exact xK.out
   clear hAt;go_wp2;go_ret;exact⟨_,rfl,xU.out,hb⟩
def GmS.PL(G:GmS)(i:Nat):List Sg:=(G.ps.map (·.2.L)).getD i []
theorem GmS.PL_of{G:GmS}{i b:Nat}{P:PrS}(h:G.ps[i]? =some (b,P)):G.PL i=P.L:=by
 unfold GmS.PL;rw[List.getD_eq_getElem?_getD,AQ,h];rfl
def GmS.all(G:GmS)(idx:List Nat):List Sg:=idx.flatMap G.PL
def Ex(X:List VS)(idx:List Nat)(k:Nat)(G G':GmS):Prop:=∃ps',G'={G with ps:=ps'}/\ps'.length=G.ps.length/\∀(i b:Nat) (P':PrS),ps'[i]? =some (b,P')->∃P,G.ps[i]? =some (b,P)/\((i∈idx.take k/\∃v L,P'=P.more v L/\L.map Sg.vs=B8 (P.L.map Sg.vs++X))∨(¬i∈idx.take k/\P'=P))
abbrev JI(idx:List Nat)(k:Nat)(G G':GmS):Prop:=Ex ((G.all idx).map Sg.vs) idx k G G'
theorem Qs{α β:Type}(f:α->List β)(c:Nat):∀l:List α,(∀x∈l,(f x).length<=c)->(l.flatMap f).length<=l.length*c
 |[],_=>by simp
 |a::l,h=>by
  have h1:=Qs f c l (fun x hx=>h x (List.mem_cons_of_mem _ hx));have h2:=h a BF;rw[List.flatMap_cons,AF,Ah,Nat.add_mul];omega
theorem Ex.zero(X:List VS)(idx:List Nat)(G:GmS):Ex X idx 0 G G:=⟨G.ps,rfl,rfl,fun i b P' h=>⟨P',h,.inr ⟨by simp,rfl⟩⟩⟩
theorem Ex.old{X:List VS}{idx:List Nat}{k i:Nat}{G G':GmS}(hnd:idx.Nodup)(hk:idx[k]? =some i)(h:Ex X idx k G G'){b:Nat}{P':PrS}(hi:G'.ps[i]? =some (b,P')):G.ps[i]? =some (b,P'):=by
 obtain⟨ps',rfl,hl,h⟩:=h;obtain⟨P,hP,⟨h1,_⟩|⟨_,rfl⟩⟩:=h i b P' hi
 ·exfalso;obtain⟨j,hj⟩:=List.getElem?_of_mem h1;have hjk:=(AE.1 hj).1;rw[AZ]at hjk;rw[BP,if_pos (by omega)]at hj;have hkl:=(AE.1 hk).1;have:=(List.getElem?_inj (i:=j) (j:=k) (by omega) hnd).1 (by rw[hj,hk]);omega
 ·exact hP
theorem Ex.turn{X:List VS}{idx:List Nat}{k i b:Nat}{G G':GmS}{P:PrS}{v:Value}{L:List Sg}(hnd:idx.Nodup)(hk:idx[k]? =some i)(h:Ex X idx k G G')(hi:G'.ps[i]? =some (b,P))(hL:L.map Sg.vs=B8 (P.L.map Sg.vs++X)):Ex X idx (k+1) G (G'.setP i b (P.more v L)):=by
 have ho:=h.old hnd hk hi;obtain⟨ps',rfl,hl,h⟩:=h;refine⟨ps'.set i (b,P.more v L),rfl,by rw[List.length_set];exact hl,fun j b' Q hj=>?_⟩;have yZ:∀j,j∈idx.take (k+1)↔j∈idx.take k∨j=i:=fun j=>by
  rw[Ai,hk,BX,AP,AU]
 rcases B0 hj with⟨rfl,e⟩|⟨hne,hj⟩
 ·injection e with e1 e2
  subst e1;exact⟨P,ho,.inl ⟨(yZ i).2 (.inr rfl),v,L,e2,hL⟩⟩
 ·obtain⟨P0,hP,hx⟩:=h j b' Q hj;refine⟨P0,hP,hx.imp (fun hx=>⟨(yZ j).2 (.inl hx.1),hx.2⟩) (fun hx=>⟨fun hc=>?_,hx.2⟩)⟩;rcases(yZ j).1 hc with hc|hc
  ·exact hx.1 hc
  ·exact hne hc.symm
theorem GmS.all_take{G:GmS}{idx:List Nat}{k i:Nat}(h:idx[k]? =some i):G.all (idx.take (k+1))=G.all (idx.take k)++G.PL i:=by
 unfold GmS.all;rw[Ai,h,BX,Af,List.flatMap_singleton]
def KSt(w w':World):Prop:=∀(b:Nat) (cs:Array Value),Blk w b 48 cs->Blk w' b 48 cs
def C8(w w':World):Prop:=∀(b t:Nat) (cs:Array Value),t≠97->Blk w b t cs->Blk w' b t cs
theorem C8.below{w w1 w2:World}(h:C8 w w1)(hb:ZN w1 w2):C8 w w2:=fun b t cs ht hB=>(h b t cs ht hB).below hb (h b t cs ht hB).lt
theorem C8.off{w w1 w2:World}{k:Nat}{cs':Array Value}(h:C8 w w1)(hg:w1.grownBy w2 (some k))(hk:Blk w1 k 97 cs'):C8 w w2:=fun b t cs ht hB=>(h b t cs ht hB).off hg (.blk hk (fun e=>ht e.symm))
theorem C8.refl(w:World):C8 w w:=fun _ _ _ _ h=>h
theorem C8.trans{w w1 w2:World}(h:C8 w w1)(h':C8 w1 w2):C8 w w2:=fun b t cs ht hB=>h' b t cs ht (h b t cs ht hB)
theorem Tm{Bs g:Nat}{w:World}{G:GmS}(h:A9 Bs w g G)(hBs:Bs<=w.heap.size)(idx:List Nat)(hnd:idx.Nodup)(hlt:∀i∈idx,i<G.ps.length)(hl20:idx.length<=20)(hsm:∀(i b:Nat) (P:PrS),G.ps[i]? =some (b,P)->P.L.length<=25000)(A:Option Addr)(n c:Nat)(hn:idx.length=n)(hr:w.ownsRow Bs 98 1 (.slice A n c) n (idx.map fun i=>Az (G.bk i))):Calls prog 40 #[Az g,.slice A n c] w fun e w'=>e= .returned (.tuple #[])/\Below Bs w w'/\C8 w w'/\∃G',A9 Bs w' g G'/\JI idx n G G':=by
 have HP:Hid (∀k i,idx[k]? =some i->∃b P,G.ps[i]? =some (b,P)/\G.bk i=b/\G.PL i=P.L/\P.L.length<=25000):=fun k i hk=>by
  obtain⟨⟨b,P⟩,hp⟩:∃x,G.ps[i]? =some x:=⟨_,AD (hlt i (AM hk))⟩;exact⟨b,P,hp,GmS.bk_of hp,GmS.PL_of hp,hsm i b P hp⟩
 have HA:Hid (∀k i,idx[k]? =some i->∃ab,A=some ⟨ab,0,none⟩/\∀V:World,V.ownsRow Bs 98 1 (.slice A n c) n (idx.map fun i=>Az (G.bk i))->V.cell? ⟨ab,k,none⟩=some (Az (G.bk i))):=fun k i hk=>by
  have key:∀V:World,V.ownsRow Bs 98 1 (.slice A n c) n (idx.map fun i=>Az (G.bk i))->∃ab,A=some ⟨ab,0,none⟩/\V.cell? ⟨ab,k,none⟩=some (Az (G.bk i)):=fun V hV=>by
   obtain⟨ab,ac,hv,xH,_,_⟩:=Cg (i:=k) (u:=Az (G.bk i)) hV (by rw[AQ,hk];rfl);injection hv with hv _ _
   exact⟨ab,hv,xH⟩
  obtain⟨ab,e,_⟩:=key w hr;refine⟨ab,e,fun V hV=>?_⟩;obtain⟨ab',e',hc⟩:=key V hV;rw[e]at e';injection e' with e'
  injection e' with e'
  rw[e'];exact hc
 have hal:∀k,(G.all (idx.take k)).length<=500000:=fun k=>by
  have:=Qs G.PL 25000 (idx.take k) (fun i hi=>by
   obtain⟨j,hj⟩:=List.getElem?_of_mem (List.mem_of_mem_take hi);obtain⟨b,P,_,_,e,hl⟩:=HP.out j i hj;rw[e];exact hl)
  unfold GmS.all;have h2:(idx.take k).length<=20:=by rw[AZ];omega
  omega
 have HSg:Hid (∀s∈G.all idx,Bo w Bs s):=fun s hs=>by
  obtain⟨i,hi,hs⟩:=List.mem_flatMap.1 hs;obtain⟨j,hj⟩:=List.getElem?_of_mem hi;obtain⟨b,P,hp,_,e,_⟩:=HP.out j i hj;rw[e]at hs;exact(h.prs _ _ hp).1.sgs s hs
 have HG:=AA h;have HR:=AA hr;have HN:=AA hn;have HNd:=AA hnd;have HAl:=AA hal;clear h hr hsm hlt hnd hal;go_enter func40,ntmps40;go_wp2
 go_loopw [4,11] (fun v iv wr=>∃k:Nat,iv= .int .i64 (k:Int)/\k<=n/\wr.ownsRow w.heap.size 62 23 v (G.all (idx.take k)).length ((G.all (idx.take k)).flatMap sgc)/\ZN w wr) (fun _ iv _=>n-(intOf iv).toNat)
 case atStart=>exact⟨0,rfl,Nat.zero_le _,⟨by simp[GmS.all],.inl ⟨rfl,rfl⟩⟩,AC _ _⟩
 case round=>
  obtain⟨k,rfl,hkn,xA,hb⟩:=hrel;have xK:=AA xA;clear xA;by_cases hk:k<n
  ·have dk:=ZK (show k<n by omega)
   obtain⟨i,hi⟩:∃i,idx[k]? =some i:=⟨_,AD (by rw[HN.out];exact hk)⟩;obtain⟨b,P,hp,hbk,hPL,hPl⟩:=HP.out k i hi;obtain⟨ab,rfl,hc⟩:=HA.out k i hi;have x1:wr.cell? ⟨ab,k,none⟩=some (Az b):=by rw[<-hbk];exact hc wr (Ay HR.out hb (AB _))
   have hPA:=((HG.out.below hb).prs _ _ hp).1;obtain⟨A1,c1,hv1,hR1⟩:=Bj hPA.row;have x2:wr.cell? ⟨b,0,none⟩=some (.slice A1 P.L.length c1):=by rw[<-hv1];exact hPA.blk.cell 0
   obtain⟨m,hm⟩:=ZI P.L.length;rw[hm]at x2 hPl;obtain⟨Lk,hLk⟩:=ZH (G.all (idx.take k));have hLl:Lk.length<=500000:=by rw[hLk];exact HAl.out k
   have hEd:Hid (wr.ownsRow w.heap.size 62 23 u4 Lk.length (Lk.flatMap sgc)):=by rw[hLk];exact xK.out
   have HLn:Hid (G.all (idx.take (k+1))=Lk++P.L):=by unfold Hid;rw[GmS.all_take hi,hPL,hLk]
   have HR1:=AA hR1;have HM:=AA hm;clear hi hp hbk hPL hc hPA hv1 hR1 hm hLk xK;go_wp2_with ((at_builtin;refine Ar rfl (.tmp 15) (.tmp 20) _ rfl w.heap.size 62 (.agg Al) 23 88 underlying50 CT rfl (by decide) u4 Lk.length (Lk.flatMap sgc) rfl hEd.out wr.heap.size A1 m c1 (P.L.flatMap sgc) rfl (by rw[AY sgc 23 P.L (Cc P.L),HM.out]) HR1.out (fun u hu=>by obtain⟨s,_,hs⟩:=List.mem_flatMap.1 hu;exact s.one u hs) (by omega) (by unfold maxLen;omega) hb.size ?_;intro v7 w7 xL hg7 xr))
   have hb7:=BJ hb hEd.out hg7;have xU:Hid (w7.ownsRow w.heap.size 62 23 v7 (G.all (idx.take (k+1))).length ((G.all (idx.take (k+1))).flatMap sgc)):=by
    unfold Hid;rw[HLn.out,AF,Af,HM.out];exact xL
   clear xL hg7 xr;go_wp2;go_roundw
   case rel=>exact⟨k+1,by go_num,by omega,xU.out,hb7⟩
   case measure=>simp[intOf];omega
  ·have dk:=ZL (show n<=k by omega)
   have hal:=HAl.out k;have e:idx.take k=idx:=AT (by rw[HN.out];omega);rw[e]at hal;have yD:Hid (wr.ownsRow w.heap.size 62 23 u4 (G.all idx).length ((G.all idx).flatMap sgc)):=by have h2:=xK.out;rw[e]at h2;exact h2
   clear xK e;obtain⟨LA,hLA⟩:=ZH (G.all idx);rw[<-hLA]at hal yD;obtain⟨AL,cL,hvL⟩:=Av yD.out;obtain⟨nL,hnL⟩:=ZI LA.length;rw[hnL]at hvL hal;subst hvL;have HLA:=AA hLA;have HNL:=AA hnL;have hbB:Below Bs w wr:=hb.mono hBs;have HK0:=AA ((C8.refl w).below hb);have hG0:=HG.out.below hb;have hR0:wr.ownsRow Bs 98 1 (.slice A n c) n (idx.map fun i=>Az (G.bk i)):=Ay HR.out hb (AB _);have hO0:wr.ownsRow Bs 62 23 (.slice AL nL cL) nL (LA.flatMap sgc):=by
    have h2:=BE yD.out hBs;rwa[HNL.out]at h2
   have hS0:∀s∈LA,Bo wr Bs s:=fun s hs=>(HSg.out s (by rw[<-HLA.out];exact hs)).below hb (AB _)
   have HG0:=AA hG0;have HR0:=AA hR0;have HO0:=AA hO0;have HS0:=AA hS0;clear hLA hnL hG0 hR0 hO0 hS0 yD;go_wp2
   go_loopw [25] (fun iv wr=>∃(k:Nat) (G':GmS),iv= .int .i64 (k:Int)/\k<=n/\A9 Bs wr g G'/\JI idx k G G'/\wr.ownsRow Bs 98 1 (.slice A n c) n (idx.map fun i=>Az (G.bk i))/\wr.ownsRow Bs 62 23 (.slice AL nL cL) nL (LA.flatMap sgc)/\(∀s∈LA,Bo wr Bs s)/\C8 w wr/\Below Bs w wr) (fun iv _=>n-(intOf iv).toNat)
   case atStart=>exact⟨0,G,rfl,Nat.zero_le _,HG0.out,Ex.zero _ idx G,HR0.out,HO0.out,HS0.out,HK0.out,hbB⟩
   case round=>
    clear HG0 HR0 HO0 HS0 HK0 hbB hb;obtain⟨k,G4,rfl,hkn,hG4,hT4,hR4,hO4,hS4,hK4,hb4⟩:=hrel;by_cases hk:k<n
    ·have dk:=ZK (show k<n by omega)
     obtain⟨i,hi⟩:∃i,idx[k]? =some i:=⟨_,AD (by rw[HN.out];exact hk)⟩;obtain⟨b,P,hp,hbk,hPL,hPl⟩:=HP.out k i hi;obtain⟨ab,rfl,hc⟩:=HA.out k i hi;have x1:wr.cell? ⟨ab,k,none⟩=some (Az b):=by rw[<-hbk];exact hc wr hR4
     have hp4:G4.ps[i]? =some (b,P):=by
      obtain⟨⟨b4,P4⟩,h4⟩:∃x,G4.ps[i]? =some x:=⟨_,AD (by
       obtain⟨ps',rfl,hl,_⟩:=hT4;show i<ps'.length;rw[hl];exact(AE.1 hp).1)⟩
      have:=hT4.old HNd.out hi h4;rw[hp]at this;rw[this]at*;exact h4
     have ya:Bs<=wr.heap.size:=AG hBs hb4.size;have hBP:=AA (Mm (hG4.prs _ _ hp4).1 ya AL nL cL LA HNL.out (Rd.of_own hO4) (fun s hs=>(hS4 s hs).ok) (by have:P.L.length<=25000:=hPl;show P.L.length+nL<=_;omega));have hPb:=(hG4.prs _ _ hp4).1.blk;have hBy:=(hG4.prs _ _ hp4).2;have HI:=AA hi;have HG4:=AA hG4;have HT4:=AA hT4;have HR4:=AA hR4;have HO4:=AA hO4;have HS4:=AA hS4;have HP4:=AA hp4;have HPb:=AA hPb;have HK4:=AA hK4;clear hi hp hbk hPL hPl hc hG4 hT4 hR4 hO4 hS4 hp4 hPb hK4;go_wp2_with (go_at_call 76;refine hBP.out.mono ?_;rintro en w7 ⟨v7,L7,rfl,hP7,hL7,hg7⟩)
     have HG7:=AA (HG4.out.setP HP4.out hg7 hP7);have HT7:=AA (HT4.out.turn (v:=v7) (L:=L7) HNd.out HI.out HP4.out (by rw[<-HLA.out,<-Ae];exact hL7));have HR7:=AA (BR HR4.out hg7 (.blk HPb.out (by decide)));have HO7:=AA (BR HO4.out hg7 (.blk HPb.out (by decide)));have HS7:Hid (∀s∈LA,Bo w7 Bs s):=fun s hs=>(HS4.out s hs).off hg7 (.blk HPb.out (by decide))
     have HK7:=AA (HK4.out.off hg7 HPb.out);have hb7:Below Bs w w7:=hb4.grown hg7 ya (ZJ hBy);clear hP7 hL7 hg7 hBP;go_wp2;go_roundw
     case rel=>exact⟨k+1,_,by go_num,by omega,HG7.out,HT7.out,HR7.out,HO7.out,HS7.out,HK7.out,hb7⟩
     case measure=>simp[intOf];omega
    ·have dk:=ZL (show n<=k by omega)
     have e:k=n:=by omega
     have HT5:Hid (JI idx n G G4):=by rw[<-e];exact hT4
     have HG5:=AA hG4;have HK5:=AA hK4;clear hG4 hT4 hR4 hO4 hS4 hK4 e;go_wp2;go_end0;exact⟨rfl,hb4,HK5.out,G4,HG5.out,HT5.out⟩
def Ya(G:GmS)(P P':PrS):Prop:=∃(v:Value) (d:List Ch) (ok:Bool),P'={P with dv:=v,dec:=d,dd:=ok}/\((P.dd=true/\P'=P)∨(P.dd=false/\∃L,L.length<=10/\Rt G.M G.par P.D L ok/\d=L.map Fm))
def Dd(j:Nat)(G G':GmS):Prop:=∃ps',G'={G with ps:=ps'}/\ps'.length=G.ps.length/\∀(i b:Nat) (P':PrS),ps'[i]? =some (b,P')->∃P,G.ps[i]? =some (b,P)/\(if i<j then Ya G P P' else P'=P)
theorem Dd.zero(G:GmS):Dd 0 G G:=⟨G.ps,rfl,rfl,fun i b P' h=>⟨P',h,by rw[if_neg (by omega)]⟩⟩
theorem Dd.stay{j b:Nat}{G G':GmS}{P':PrS}(h:Dd j G G')(hj:G'.ps[j]? =some (b,P'))(hd:P'.dd=true):Dd (j+1) G G':=by
 obtain⟨ps',rfl,hl,h⟩:=h;refine⟨ps',rfl,hl,fun i b' Q hi=>?_⟩;obtain⟨P,hP,hx⟩:=h i b' Q hi;refine⟨P,hP,?_⟩;by_cases h1:i<j
 ·rw[if_pos h1]at hx;rw[if_pos (by omega)];exact hx
 ·rw[if_neg h1]at hx;by_cases h2:i=j
  ·subst h2;rw[show({G with ps:=ps'}:GmS).ps=ps' from rfl,hi]at hj;injection hj with hj
   injection hj with hj hj'
   subst hj';rw[if_pos (by omega)];subst hx;exact⟨_,_,_,rfl,.inl ⟨hd,rfl⟩⟩
  ·rw[if_neg (by omega)];exact hx
theorem Dd.turn{j b:Nat}{G G':GmS}{P':PrS}{v:Value}{L:List Oc}{ok:Bool}(h:Dd j G G')(hj:G'.ps[j]? =some (b,P'))(hd:P'.dd=false)(hL:Rt G.M G.par P'.D L ok)(hl10:L.length<=10):Dd (j+1) G (G'.setP j b {P' with dv:=v,dec:=L.map Fm,dd:=ok}):=by
 obtain⟨ps',rfl,hl,h⟩:=h;refine⟨ps'.set j (b,{P' with dv:=v,dec:=L.map Fm,dd:=ok}),rfl,by rw[List.length_set];exact hl,fun i b' Q hi=>?_⟩;rcases B0 hi with⟨rfl,e⟩|⟨hne,hi⟩
 ·injection e with e1 e2
  subst e1;obtain⟨P,hP,hx⟩:=h j b' P' hj;rw[if_neg (by omega)]at hx;subst hx;exact⟨P',hP,by rw[if_pos (by omega)];exact⟨v,_,ok,e2,.inr ⟨hd,L,hl10,hL,rfl⟩⟩⟩
 ·obtain⟨P,hP,hx⟩:=h i b' Q hi;refine⟨P,hP,?_⟩;by_cases h1:i<j
  ·rw[if_pos h1]at hx;rw[if_pos (by omega)];exact hx
  ·rw[if_neg h1]at hx;rw[if_neg (by omega)];exact hx
theorem Dd.keep{j:Nat}{G G':GmS}(h:Dd j G G'):G'.ps.length=G.ps.length/\G'.M=G.M/\G'.par=G.par/\G'.pv=G.pv/\∀(i b:Nat) (P':PrS),G'.ps[i]? =some (b,P')->∃P,G.ps[i]? =some (b,P)/\P'.L=P.L:=by
 obtain⟨ps',rfl,hl,h⟩:=h;refine⟨hl,rfl,rfl,rfl,fun i b P' hi=>?_⟩;obtain⟨P,hP,hx⟩:=h i b P' hi;refine⟨P,hP,?_⟩;by_cases h1:i<j
 ·rw[if_pos h1]at hx;obtain⟨v,d,ok,rfl,_⟩:=hx;rfl
 ·rw[if_neg h1]at hx;rw[hx]
def GoodG(G:GmS):Prop:=G.ps.length<=1000/\∀(i b:Nat) (P:PrS),G.ps[i]? =some (b,P)->P.L.length<=1000000/\∀x∈P.L,Ab x.vote
def Xb(Bs g:Nat)(k p:Int)(Inv:GmS->Prop)(G:GmS)(w:World)(e:Ending)(w':World):Prop:=
 Below Bs w w'/\(k=2->C8 w w')/\((e= .returned (.int .i64 0)/\∃G' G'',Inv G'/\Dd G'.ps.length G' G''/\A9 Bs w' g G'')∨(e= .returned (.int .i64 1)/\k≠2/\(k=1->p<0∨(G.ps.length:Int)<=p)/\A9 Bs w' g G))
def Pa(Bs g:Nat)(k:Int)(Inv:GmS->Prop)(w:World)(e:Ending)(w':World):Prop:=
 e= .returned (.tuple #[])/\Below Bs w w'/\(k=2->C8 w w')/\∃G',A9 Bs w' g G'/\Inv G'
theorem Rw{w:World}{base e size n:Nat}{v:Value}{xs:List Value}(h:w.ownsRow base e size v n xs):∃A c,v= .slice A n c:=Av h
theorem DL.decd{Bs b:Nat}{w w':World}{P:PrS}{v:Value}{d:List Ch}{ok:Bool}(h:DL Bs w b P)(hw:w'=(w.setCell ⟨b,12,none⟩ v).setCell ⟨b,13,none⟩ (.bool ok))(ho:w.ownsRow Bs 88 9 v d.length (d.flatMap chc)):DL Bs w' b {P with dv:=v,dec:=d,dd:=ok}/\w.grownBy w' (some b):=by
 have hg:w.grownBy w' (some b):=by
  rw[hw];exact(Bl (p:=⟨b,12,none⟩) (Am w b) rfl _).trans (Bl (p:=⟨b,13,none⟩) (Am _ b) rfl _)
 refine⟨⟨?_,BR h.row hg (.blk h.blk (by decide)),fun s hs=>(h.sgs s hs).off hg (.blk h.blk (by decide)),BR ho hg (.blk h.blk (by decide))⟩,hg⟩;rw[hw];exact(h.blk.put 12 v).put 13 _
theorem Tn{Bs g:Nat}{w:World}{G:GmS}(s:Stp)(Inv:GmS->Prop)(h:A9 Bs w g G)(hBs:Bs<=w.heap.size)(hEI:G.ps.length<=20)(hA:s.kind=1->∀(p b:Nat) (P:PrS) (V:World),s.process=(p:Int)->G.ps[p]? =some (b,P)->A9 Bs V g G->Bs<=V.heap.size->Calls prog 39 #[Az g,Az b] V (Pa Bs g s.kind Inv V))(hM:s.kind=2->∀(V:World) (A:Option Addr) (n c:Nat),A9 Bs V g G->Bs<=V.heap.size->(DM s.procs G.ps.length).length=n->V.ownsRow Bs 98 1 (.slice A n c) n ((DM s.procs G.ps.length).map fun i=>Az (G.bk i))->Calls prog 40 #[Az g,.slice A n c] V (Pa Bs g s.kind Inv V))(hL:s.kind=3->∀(V:World) (A:Option Addr) (n c:Nat),A9 Bs V g G->Bs<=V.heap.size->(DM s.procs G.ps.length).length=n->V.ownsRow Bs 98 1 (.slice A n c) n ((DM s.procs G.ps.length).map fun i=>Az (G.bk i))->Calls prog 42 #[Az g,s.vote.val,.slice A n c] V fun e w'=>Below Bs V w'/\KSt V w'/\((e= .returned (.int .i64 1)/\A9 Bs w' g G)∨(e= .returned (.int .i64 0)/\∃G',A9 Bs w' g G'/\Inv G')))(hgd:∀G',Inv G'->GoodG G'):Calls prog 22 #[Az g,s.val] w (Xb Bs g s.kind s.process Inv G w):=by
 obtain⟨w1,hw1⟩:=ZH (w.alloc (.cells s.cells 48));have hb1:ZN w w1:=by rw[hw1];exact(AC _ _).alloc (AB _) _
 obtain⟨q,hq⟩:=ZH w.heap.size;have hQ1:Blk w1 q 48 s.cells:=by rw[hw1,hq];exact Blk.new w _ _
 have h1:A9 Bs w1 g G:=h.below hb1;have zQ:Below Bs w w1:=hb1.mono hBs;have yK:Bs<=w1.heap.size:=AG hBs zQ.size;obtain⟨kd,hkd⟩:=ZI s.kind;have y3:w1.cell? ⟨q,0,none⟩=some (.int .i64 kd):=by rw[<-hkd];exact hQ1.cell 0
 obtain⟨sp,hsp⟩:=ZI s.process;have y4:w1.cell? ⟨q,1,none⟩=some (.int .i64 sp):=by rw[<-hsp];exact hQ1.cell 1
 have y5:w1.cell? ⟨q,2,none⟩=some (.int .i64 s.procs):=hQ1.cell 2;rw[hkd,hsp]at hA;rw[hkd]at hM hL;rw[hkd,hsp];obtain⟨idx,hFW⟩:=ZH (DM s.procs G.ps.length);obtain⟨nI,hnI⟩:=ZI idx.length;have HCh:Hid (∀V,ZN w1 V->Calls prog 41 #[Az g,.int .i64 s.procs] V fun e w'=>∃A c,e= .returned (.slice A nI c)/\ZN V w'/\w'.ownsRow Bs 98 1 (.slice A nI c) nI (idx.map fun i=>Az (G.bk i))):=fun V hV=>by
  refine(PZ (h1.below hV) s.procs hEI).mono ?_;rintro e w' ⟨v,rfl,xA,hb⟩;rw[<-hFW,hnI]at xA;obtain⟨A,c,rfl⟩:=Av xA;exact⟨A,c,rfl,hb,BE xA (AG yK hV.size)⟩
 rw[<-hFW]at hM hL;have HA:=AA hA;have HM:=AA hM;have HL:=AA hL;have HG:=AA h;have HGe:=AA h1;have HGd:=AA hgd;have HW1:=AA hw1;have HQ:=AA hq;have HQ1:=AA hQ1;have HNI:=AA hnI;have hql:q<w1.heap.size:=hQ1.lt;have hbx:ZN w1 w1:=AC _ _;have HK1:Hid (kd=2->C8 w w1):=fun _=>(C8.refl w).below hb1
 have HX:Hid (∀V,Blk V q 48 s.cells->AJ V q 3 22=some s.vote.cells/\V.cell? ⟨q,2,none⟩=some (.int .i64 s.procs)):=fun V hV=>⟨s.row_vote hV,hV.cell 2⟩
 clear h hA hM hL hgd hw1 hq hQ1 h1 hb1 hkd hsp hFW hnI;go_enter func22,ntmps22;go_upto_region 3 with fail
 simp only[<-HW1.out,<-HQ.out];go_upto_block 0 with fail
 go_cut[5] (fun _ wx=>∃G',A9 Bs wx g G'/\Inv G'/\(kd=2->C8 w wx)/\Below Bs w wx)
 case first=>
  by_cases k1:kd=1
  ·subst k1;by_cases hp:sp<0∨(G.ps.length:Int)<=sp
   ·have HMb:=AA (Rs HGe.out sp hp);have HG1:=HGe;have HPp:=AA hp;clear HCh HX hp HA HM HL;go_wp2_with (go_at_call 20;refine HMb.out.mono ?_;rintro en w2 ⟨rfl,hw2⟩;replace hw2:=hw2.symm;subst hw2)
    go_ret;exact⟨zQ,HK1.out,.inr ⟨rfl,by omega,fun _=>HPp.out,HG1.out⟩⟩
   obtain⟨p,rfl⟩:∃p:Nat,sp=(p:Int):=⟨sp.toNat,by omega⟩;obtain⟨⟨b,P⟩,hP⟩:∃x,G.ps[p]? =some x:=⟨_,AD (by omega)⟩;obtain⟨pb,pc,_,y1,y2,hpn⟩:=HGe.out.pcells hP;obtain⟨n,hn⟩:=ZH G.ps.length;rw[<-hn]at y1 hpn;have HMb:=AA (Fo HGe.out hP);have HAc:Hid (∀V,ZN w1 V->Calls prog 39 #[Az g,Az b] V (Pa Bs g 1 Inv V)):=fun V hV=>HA.out rfl p b P V rfl hP (HGe.out.below hV) (AG yK hV.size)
   have hpi:(p:Int)<(n:Int):=by omega
   have dm:decide ((P.mem:Int)<0)=false:=by simp
   clear HCh HX hp hP hn hpn HA HM HL;go_upto_region 8 with(go_at_call 20;refine HMb.out.mono ?_;rintro en w2 ⟨rfl,hw2⟩;replace hw2:=hw2.symm;subst hw2)
   go_still_tail 9,(by kernel_rfl);change wpList _ _ _ _ _ w1.drew;go_wp2_with (go_at_call 39;refine(HAc.out _ (AC w1.heap.size w1).drew).mono ?_;rintro en w4 ⟨rfl,hb4,_,G4,hG4,hI4⟩;have HG4:=AA hG4;have HI4:=AA hI4;clear hG4 hI4)
   go_meet;exact⟨G4,HG4.out,HI4.out,fun e=>(by omega),(zQ.trans (AC _ _).drew).trans hb4⟩
  by_cases k2:kd=2
  ·subst k2;have HM1:=AA (HM.out rfl);clear HX HA HL HM k1;go_upto_region 10 with fail
   go_wp2_with (first
    |(go_at_call 41;refine(HCh.out _ hbx).mono ?_;rintro en w2 ⟨A,c,rfl,hb2,hr2⟩;have xd:=hbx.trans hb2;have HR2:=AA hr2;clear hr2)
    |(go_at_call 40;refine(HM1.out _ A nI c (HGe.out.below xd) (AG yK xd.size) HNI.out HR2.out).mono ?_;rintro en w3 ⟨rfl,hb3,hk3,G3,hG3,hI3⟩;have HG3:=AA hG3;have HI3:=AA hI3;have HK3:=AA hk3;clear hG3 hI3 hk3)
    |fail)
   go_meet;exact⟨G3,HG3.out,HI3.out,fun e=>((HK1.out e).below xd).trans (HK3.out e),(zQ.trans (xd.mono yK)).trans hb3⟩
  by_cases k3:kd=3
  ·subst k3;have HL1:=AA (HL.out rfl);clear HA HM HL k1 k2;go_upto_region 12 with fail
   refine rgD (fun V=>AJ V q 3 22=some s.vote.cells/\V.cell? ⟨q,2,none⟩=some (.int .i64 s.procs)) (HX.out _ HQ1.out) fun _=>?_
   iterate 6 (refine tkA ?_;go_frame)
   refine rd1 6 fun K hK=>?_
   go_simp;refine(HCh.out _ (AC w1.heap.size w1).drew).mono ?_;rintro en w2 ⟨A,c,rfl,hb2,hr2⟩;have xd:ZN w1 w2:=((AC w1.heap.size w1).drew).trans (hb2.mono (Below.size (AC w1.heap.size w1).drew));have HR2:=AA hr2;have hQ2:=HQ1.out.below xd hql;have HQ2:=AA hQ2;clear hr2 hQ2;go_wp2_with fail
   refine hK.out _ _ (HX.out _ HQ2.out) (fun _=>?_);clear hK K;try go_frame
   refine rd1 7 fun K hK=>?_
   go_simp;refine(HL1.out _ A nI c (HGe.out.below xd) (AG yK xd.size) HNI.out HR2.out).mono ?_;rintro en w3 ⟨hb3,hk3,hx3⟩;obtain⟨x,rfl,hx4⟩:∃x:Int,en= .returned (.int .i64 x)/\((x=1/\A9 Bs w3 g G)∨(x=0/\∃G',A9 Bs w3 g G'/\Inv G')):=(hx3.elim (fun h=>⟨1,h.1,.inl ⟨rfl,h.2⟩⟩) (fun h=>⟨0,h.1,.inr ⟨rfl,h.2⟩⟩));have HX3:=AA hx4;have HQ3:=AA (hk3 q _ HQ2.out);clear hx3 hx4 hk3;go_wp2_with fail
   refine hK.out _ _ (HX.out _ HQ3.out) (fun _=>?_);clear hK K;try go_frame
   refine tkD 5 8 ?_;go_frame;refine dnD ?_;have xj:Below Bs w w3:=(zQ.trans (xd.mono yK)).trans hb3;have hx:=HX3.out;clear HX3;rcases hx with⟨rfl,hG3⟩|⟨rfl,hG3⟩
   ·have HG3:=AA hG3;clear hG3;go_wp2;go_ret;exact⟨xj,fun e=>(by omega),.inr ⟨rfl,by omega,fun e=>(by omega),HG3.out⟩⟩
   ·have HG3:=AA hG3;clear hG3;go_wp2;go_meet;obtain⟨G',h1,h2⟩:=HG3.out;exact⟨G',h1,h2,fun e=>(by omega),xj⟩
  have e1:(kd==1)=false:=by simpa using k1
  have e2:(kd==2)=false:=by simpa using k2
  have e3:(kd==3)=false:=by simpa using k3
  clear HCh HX HA HM HL;go_wp2;go_ret;exact⟨zQ,HK1.out,.inr ⟨rfl,k2,fun e=>absurd e k1,HGe.out⟩⟩
 case rest=>
  clear HCh HX HA HM HL HK1 HQ1 HGe HG y3 y4 y5;obtain⟨G3,hG3,hI3,hK3,xj⟩:=hcut;generalize wc=w3 at*;have zr:Bs<=w3.heap.size:=AG hBs xj.size;obtain⟨A3,pc3,hEJ⟩:=Rw hG3.prow;obtain⟨n3,hn3⟩:=ZH G3.ps.length;rw[<-hn3]at hEJ;have y1:w3.cell? ⟨g,11,none⟩=some (.slice A3 n3 pc3):=by rw[<-hEJ];exact hG3.blk.cell 11
  have HGo:=AA (HGd.out G3 hI3);have hn31:n3<=1000:=by rw[hn3];exact HGo.out.1
  obtain⟨M,hM⟩:=ZH G3.M;obtain⟨par,zt⟩:=ZH G3.par;have HG3:=AA hG3;have HI3:=AA hI3;have HN3:=AA hn3;have HM:=AA hM;have HPa:=AA zt;have HPv:=AA hEJ;have HK3:=AA hK3;clear hG3 hI3 hK3 hn3 hM zt hEJ;go_wp2
  go_loopw [57] (fun iv wr=>∃(j:Nat) (G':GmS),iv= .int .i64 (j:Int)/\j<=n3/\A9 Bs wr g G'/\Dd j G3 G'/\(kd=2->C8 w wr)/\Below Bs w3 wr) (fun iv _=>n3-(intOf iv).toNat)
  case atStart=>exact⟨0,G3,rfl,Nat.zero_le _,HG3.out,Dd.zero G3,HK3.out,AC _ _⟩
  case round=>
   obtain⟨j,G4,rfl,hjn,hG4,hT4,hK4,hEK⟩:=hrel;have HK4:=AA hK4;clear hK4 HK3;have zF:Below Bs w wr:=xj.trans hEK;have ya:Bs<=wr.heap.size:=AG hBs zF.size;by_cases hj:j<n3
   ·have dj:=ZK (show j<n3 by omega)
    obtain⟨e1,e2,e3,e4,e5⟩:=hT4.keep;obtain⟨⟨b4,P4⟩,hP4⟩:∃x,G4.ps[j]? =some x:=⟨_,AD (by rw[e1,<-HN3.out];exact hj)⟩;obtain⟨pb,pc,hpv,z1,z2,_⟩:=hG4.pcells hP4;rw[e4,HPv.out]at hpv;injection hpv with hpv hq1 hq2
    subst hpv;clear z1 hq1 hq2;have z3:wr.cell? ⟨b4,13,none⟩=some (.bool P4.dd):=(hG4.prs _ _ hP4).1.blk.cell 13;have zu:P4.L.length<=1000000/\∀x∈P4.L,Ab x.vote:=by
     obtain⟨P,hP,hL⟩:=e5 j b4 P4 hP4;rw[hL];exact HGo.out.2 j b4 P hP
    have HG4:=AA hG4;have HT4:=AA hT4;have HP4:=AA hP4;have hDO:=AA zu;have HE:=AA (And.intro e2 e3);obtain⟨d,hd⟩:=ZH P4.dd;rw[<-hd]at z3;have HD:=AA hd;clear hG4 hT4 hP4 zu e1 e2 e3 e4 e5 hd;go_upto_region 18 with fail
    cases d with
    |true=>
     go_wp2;go_roundw
     case rel=>exact⟨j+1,G4,by go_num,by omega,HG4.out,HT4.out.stay HP4.out HD.out.symm,HK4.out,hEK⟩
     case measure=>simp[intOf];omega
    |false=>
     obtain⟨w4,hw4⟩:=ZH wr;rw[<-hw4]at HG4 HK4 hEK zF ya z2 z3 ⊢;clear hw4;obtain⟨D,hD⟩:=ZH P4.D;have hDl:D.length<=1000000:=by
      rw[hD];show((B8 _).map _).length<=_;rw[AX];have:=D9 (P4.L.map Sg.vs);rw[AX]at this;have:=hDO.out.1;omega
     have HVt:Hid (∀V,ZN w4 V->Calls prog 44 #[Az b4] V (GG V D)):=fun V hV=>by rw[hD];exact Hw ((HG4.out.below hV).prs _ _ HP4.out).1 hDO.out.1
     have HDc:Hid (∀V A c',ZN w4 V->Rd V V.heap.size A (D.flatMap vtc)->Calls prog 43 #[.int .i64 M,par.val,.slice A D.length c'] V (N7 M par D V)):=fun V A c' hV hR=>Ru M par A D.length c' D V rfl hR hDl (by rw[hD];exact PrS.D_valid hDO.out.2)
     have HX:Hid (∀V,ZN w4 V->V.cell? ⟨g,0,none⟩=some (.int .i64 M)/\AJ V g 2 8=some par.cells):=fun V hV=>by
      rw[HM.out,HPa.out,<-HE.out.1,<-HE.out.2];exact⟨(HG4.out.below hV).blk.cell 0,(HG4.out.below hV).row_par⟩
     have HDe:=AA hD;clear hD;go_upto_region 19 with fail
     refine rgD (fun V=>V.cell? ⟨g,0,none⟩=some (.int .i64 M)/\AJ V g 2 8=some par.cells) (HX.out _ (AC w4.heap.size w4).drew) fun _=>?_
     iterate 11 (refine tkA ?_;go_frame)
     refine rd1 11 fun K hK=>?_
     go_simp;refine(HVt.out _ (AC w4.heap.size w4).drew).mono ?_;rintro en w5 ⟨v5,rfl,hb5,xW⟩;obtain⟨A5,c5,rfl,hR5⟩:=Bj xW;have HR5:=AA hR5;have xn:ZN w4 w5:=((AC w4.heap.size w4).drew).trans (hb5.mono (Below.size (AC w4.heap.size w4).drew));clear xW hR5 hb5;go_wp2_with fail
     refine hK.out _ _ (HX.out _ xn) (fun _=>?_);clear hK K;try go_frame
     refine rd1 12 fun K hK=>?_
     go_simp;refine(HDc.out w5 A5 c5 xn HR5.out).mono ?_;rintro en w6 ⟨v6,L,ok,rfl,xi,hb6,hL10,zV⟩;obtain⟨A6,c6,rfl,hR6⟩:=Bj xi;have HR6:=AA hR6;have hCl:=AA zV;have yO:ZN w4 w6:=xn.trans (hb6.mono xn.size);clear xi hR6 hb6 zV;go_wp2_with fail
     refine hK.out _ _ (HX.out _ yO) (fun _=>?_);clear hK K;try go_frame
     iterate 5 (refine tkA ?_;go_frame)
     refine dnD ?_;obtain⟨m,hm⟩:=ZI L.length;have HCh:=AA (Vg A6 m c6 L w6 hm HR6.out (by omega));rw[hm];have HMl:=AA hm;have hG6:=HG4.out.below yO;have HG6:=AA hG6;have hBQ:Bs<=w6.heap.size:=AG ya yO.size;clear hm hG6;go_upto_region 21 with(go_at_call 45;refine HCh.out.mono ?_;rintro en w7 ⟨v7,rfl,xL,hb7⟩;have hP7:=(HG6.out.below hb7).prs _ _ HP4.out;have k1:w7.cell? ⟨b4,12,none⟩=some P4.dv:=hP7.1.blk.cell 12;have k2:w7.frozen? ⟨b4,12,none⟩=false:=hP7.1.blk.frozen 12;have k3:w7.cell? ⟨b4,13,none⟩=some (.bool P4.dd):=hP7.1.blk.cell 13;have k4:w7.frozen? ⟨b4,13,none⟩=false:=hP7.1.blk.frozen 13;obtain⟨A7,c7,rfl⟩:=Av xL;have xU:=AA xL;have HP7:=AA hP7;clear xL hP7)
     have hBy:Bs<=b4:=HP7.out.2;have hd7:=HP7.out.1.decd (v:=.slice A7 (L.map Fm).length c7) (d:=L.map Fm) (ok:=ok) rfl (BE (by simpa using xU.out) hBQ);have hG7:=(HG6.out.below hb7).setP HP4.out hd7.2 hd7.1;have hC8:=((hEK.trans (yO.mono ya)).trans (hb7.mono hBQ)).grown hd7.2 (AG hBQ hb7.size) (ZJ hBy);have hT7:Dd (j+1) G3 _:=HT4.out.turn (v:=.slice A7 (L.map Fm).length c7) (L:=L) (ok:=ok) HP4.out HD.out.symm (by rw[<-HM.out,<-HPa.out,<-HDe.out];exact hCl.out) hL10;have HG7:=AA hG7;have HT7:=AA hT7;have HK7:Hid (kd=2->C8 w _):=fun e=>(((HK4.out e).below yO).below hb7).off hd7.2 HP7.out.1.blk
     clear hG7 hT7 hd7;go_wp2;go_roundw
     case rel=>exact⟨j+1,_,by go_num,by omega,by simpa using HG7.out,by simpa using HT7.out,by simpa using HK7.out,by simpa using hC8⟩
     case measure=>simp[intOf];omega
   ·have dj:=ZL (show n3<=j by omega)
    have hDm:j=G3.ps.length:=by rw[<-HN3.out];omega
    have HT4:Hid (Dd G3.ps.length G3 G4):=by unfold Hid;rw[<-hDm];exact hT4
    have HG4:=AA hG4;clear hT4 hG4 hDm;go_wp2;go_ret;exact⟨zF,HK4.out,.inl ⟨rfl,G3,G4,HI3.out,HT4.out,HG4.out⟩⟩
end
end Go.Proofs.YtadllffeoibelaaGreat
