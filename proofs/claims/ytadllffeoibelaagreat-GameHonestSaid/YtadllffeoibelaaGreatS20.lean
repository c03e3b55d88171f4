/-
  What these parts of the proof come to, functions walked and plain laws: St4, St5. No condition.
-/
import Derived.Test.YtadllffeoibelaaGreatS19
import Derived.Deep.DeepCutAuto
namespace Go.Proofs.YtadllffeoibelaaGreat
set_option maxRecDepth 100000
set_option maxHeartbeats 32000000
set_option linter.all false
section
open Go.RowKit
section
variable {α:Type}{lt:α→α→Bool}
theorem LQ{l:List α}{a s m:Nat}(h:s≤m):seg l a s=(seg l a m).take (s-a):=by
 unfold seg;rw[List.drop_take,List.drop_take,List.take_take];congr 1;omega
theorem LR{l:List α}{a s m:Nat}(h:a≤s):seg l s m=(seg l a m).drop (s-a):=by
 unfold seg;rw[List.drop_drop];congr 1;omega
structure II (lt:α→α→Bool)(l l1:List α)(a s m mid e b:Nat):Prop where
 has:a≤s
 hsm:s≤m
 hme:m≤e
 heb:e≤b
 hbl:b≤l.length
 hmid:mid+m=s+e
 hX:Asc lt (seg l a m)
 hY:Asc lt (seg l m b)
 F1:∀x∈seg l a s,∀y∈seg l e b,lt y x=false
 F2:∀x∈seg l m e,∀y∈seg l s m,lt y x=false
 k1:CB l l1 s e
 q1:seg l1 s mid=seg l m e
 q2:seg l1 mid e=seg l s m
variable {l l1 l2:List α}{a s m mid e b:Nat}
theorem II.left(h:II lt l l1 a s m mid e b):Asc lt (seg l1 a s)∧Asc lt (seg l1 s mid):=by
 refine⟨?_,?_⟩
 ·rw[h.k1.seg_lo (AB _),LQ h.hsm];exact h.hX.take _
 ·rw[h.q1,LQ h.heb];exact h.hY.take _
theorem II.leftNone(h:II lt l l1 a s m mid e b)(hs:s=a∨s=mid):Asc lt (seg l1 a mid):=by
 rcases hs with rfl|rfl
 ·exact h.left.2
 ·exact h.left.1
theorem II.right(h:II lt l l1 a s m mid e b)(k2:CB l1 l2 a mid):Asc lt (seg l2 mid e)∧Asc lt (seg l2 e b):=by
 have hm:=h.hmid;have h1:=h.hsm;refine⟨?_,?_⟩
 ·rw[k2.seg_hi (AB _),h.q2,LR h.has];exact h.hX.drop _
 ·rw[k2.seg_hi (by omega),h.k1.seg_hi (AB _),LR h.hme];exact h.hY.drop _
theorem II.rightNone(h:II lt l l1 a s m mid e b)(k2:CB l1 l2 a mid)(hs:e=mid∨e=b):Asc lt (seg l2 mid b):=by
 rcases hs with rfl|rfl
 ·exact(h.right k2).2
 ·exact(h.right k2).1
theorem II.done{l3:List α}(h:II lt l l1 a s m mid e b)(k2:CB l1 l2 a mid)(z2:Asc lt (seg l2 a mid))(k3:CB l2 l3 mid b)(z3:Asc lt (seg l3 mid b)):CB l l3 a b∧Asc lt (seg l3 a b):=
 Q7 h.has h.hsm h.hme h.heb h.hbl h.hmid h.hX h.hY h.F1 h.F2 h.k1 h.q1 h.q2 k2 z2 k3 z3
theorem Md(ho:Ord lt){l:List α}{a m b mid p s0 r0 s:Nat}(hmid:mid=(a+b)/2)(ham:a<m)(hmb:m<b)(hp:p=mid+m-1)(hs:(mid<m∧s0=mid+m-b∧r0=mid)∨(m≤mid∧s0=a∧r0=m))(hX:Asc lt (seg l a m))(hY:Asc lt (seg l m b))(h:SV lt l p s0 r0 s s):a≤s∧s≤m∧s≤mid∧m≤mid+m-s∧mid+m-s≤b∧(∀x∈seg l a s,∀y∈seg l (mid+m-s) b,lt y x=false)∧(∀x∈seg l m (mid+m-s),∀y∈seg l s m,lt y x=false):=by
 obtain⟨h1,_,h2,h3,h4⟩:=h;have e1:a≤s:=by omega
 have e2:s≤m:=by omega
 have e3:s≤mid:=by omega
 have e4:mid+m-s≤b:=by omega
 refine⟨e1,e2,e3,by omega,e4,?_,?_⟩
 ·by_cases hz:s=s0
  ·intro x hx y hy;rcases hs with⟨_,hs0,_⟩|⟨_,hs0,_⟩
   ·rw[Bu l (.inr (by omega))]at hy;cases hy
   ·rw[Bu l (.inr (by omega))]at hx;cases hx
  ·rcases h3 with h3|⟨u,x,hu,hx,hux⟩
   ·exact absurd h3 hz
   ·by_cases he:mid+m-s<b
    ·exact TZ ho (l:=l) (a:=a) (s:=s) (m:=m) (e:=mid+m-s) (b:=b) (by omega) (by omega) hX hY (by omega) he hx (by rw[←hu];congr 1;omega) hux
    ·intro x hx y hy;rw[Bu l (.inr (by omega))]at hy;cases hy
 ·by_cases hz:s=r0
  ·intro x hx y hy;rcases hs with⟨_,_,hr0⟩|⟨_,_,hr0⟩
   ·rw[Bu l (.inr (by omega))]at hx;cases hx
   ·rw[Bu l (.inr (by omega))]at hy;cases hy
  ·rcases h4 with h4|⟨u,x,hu,hx,hux⟩
   ·exact absurd h4 hz
   ·by_cases h5:s<m∧m<mid+m-s
    ·exact Ta ho (l:=l) (a:=a) (s:=s) (m:=m) (e:=mid+m-s) (b:=b) h5.1 h5.2 e1 e4 hX hY hx (by rw[←hu];congr 1;omega) hux
    ·intro x hx y hy;rcases Nat.lt_or_ge s m with h6|h6
     ·rw[Bu l (.inr (by omega))]at hx;cases hx
     ·rw[Bu l (.inr (by omega))]at hy;cases hy
end
section
variable {α:Type}{c:α→List Value}{t:TypeId}{w0:World}{g n f F:Nat}{sb lb:Array Value}{lt:α→α→Bool}{l0:List α}
theorem RN(eg:∀args w,(callFunc F args).run Tryz.prog w= .ok (.enter F args) w)(ho:Ord lt)(hle:D2 c t w0 g l0 lt F lb)(hsw:EM c t w0 g n f sb)(a m b:Nat)(l:List α)(w:World)(hrow:Row c t w0 g l w)(hp:l.Perm l0)(hn:l.length=n)(hsmall:n≤1000000)(ham:a+1<m)(hmb:m+1<b)(hb:b≤n)(hX:Asc lt (seg l a m))(hY:Asc lt (seg l m b))(hrec:∀(a' m' b':Nat) (l':List α) (w':World),b'-a'<b-a→Row c t w0 g l' w'→l'.Perm l0→l'.length=n→a'<m'→m'<b'→b'≤n→Asc lt (seg l' a' m')→Asc lt (seg l' m' b')→Calls Tryz.prog 180 #[.agg #[.func (.func F) #[] lb,.func (.func f) #[] sb],.int .i64 (a':Int),.int .i64 (m':Int),.int .i64 (b':Int)] w' (Da c t g lt l' a' b' w')):Calls Tryz.prog 180 #[.agg #[.func (.func F) #[] lb,.func (.func f) #[] sb],.int .i64 (a:Int),.int .i64 (m:Int),.int .i64 (b:Int)] w (Da c t g lt l a b w):=by
 have HO:=AA ho;clear ho;have HLe:=AA hle;clear hle;have HSw:=AA hsw;clear hsw;have HRow:=AA hrow;clear hrow;have HP:=AA hp;clear hp;have HN:=AA hn;clear hn;have HX:=AA hX;clear hX;have HY:=AA hY;clear hY;have HRec:=AA hrec;clear hrec;have hgw:g<w.heap.size:=HRow.out.blk.lt;have dma:((m:Int)-(a:Int)==1)=false:=by simp;omega
 have dbm:((b:Int)-(m:Int)==1)=false:=by simp;omega
 obtain⟨mid,hmid⟩:∃mid,mid=(a+b)/2:=⟨_,rfl⟩;have hmi:((a:Int)+(b:Int))/2=(mid:Int):=by omega
 have HMid:=AA hmid;have hm1:a≤mid:=by omega
 have hm2:mid<b:=by omega
 have hm3:mid+mid≤a+b:=by omega
 have hm4:a+b≤mid+mid+1:=by omega
 clear hmid;obtain⟨nn,hnn⟩:∃nn,nn=mid+m:=⟨_,rfl⟩;have hni:(mid:Int)+(m:Int)=(nn:Int):=by omega
 obtain⟨p,hpp⟩:∃p,p=mid+m-1:=⟨_,rfl⟩;have hpi:(nn:Int)-1=(p:Int):=by omega
 have HPp:=AA hpp;have hpn1:p+1≤nn:=by omega
 have hpn2:nn≤p+1:=by omega
 have hnn1:nn≤mid+m:=by omega
 have hnn2:mid+m≤nn:=by omega
 clear hpp hnn;obtain⟨s0,r0,hs0⟩:∃s0 r0:Nat,(mid<m∧s0=mid+m-b∧r0=mid)∨(m≤mid∧s0=a∧r0=m):=by
  rcases Nat.lt_or_ge mid m with h|h
  ·exact⟨_,_,.inl ⟨h,rfl,rfl⟩⟩
  ·exact⟨_,_,.inr ⟨h,rfl,rfl⟩⟩
 have HS:=AA hs0;have hsr:s0≤r0:=by omega
 have hr0m:r0≤mid:=by omega
 have hps:p≤s0+b:=by omega
 have hps2:p-s0<b:=by omega
 have hr0p:r0≤p:=by omega
 have hr0n:r0≤m:=by omega
 go_enter Tryz.func180,Tryz.ntmps180;go_upto_if 106 with fail
 go_cut[18,19] (fun sv rv wx=>sv= .int .i64 (s0:Int)∧rv= .int .i64 (r0:Int)∧Row c t (w.alloc (.cells #[.func (.func F) #[] lb,.func (.func f) #[] sb] 190)) g l wx)
 case first=>
  rcases hs0 with⟨q1,q2,q3⟩|⟨q1,q2,q3⟩
  ·have dg:decide ((mid:Int)<(m:Int))=true:=by simp;omega
   have hsi:(nn:Int)-(b:Int)=(s0:Int):=by omega
   subst q3;clear q2;go_wp2;go_meet;exact⟨rfl,rfl,Row.self (HRow.out.blk.alloc _)⟩
  ·have dg:decide ((mid:Int)<(m:Int))=false:=by simp;omega
   subst q2;subst q3;go_wp2;go_meet;exact⟨rfl,rfl,Row.self (HRow.out.blk.alloc _)⟩
 case rest=>
  obtain⟨rfl,rfl,hr0⟩:=hcut;clear hs0;have HR0:=AA hr0;clear hr0;go_wp2
  go_loopw [18,19] (fun sv rv wr=>∃(s r:Nat),sv= .int .i64 (s:Int)∧rv= .int .i64 (r:Int)∧SV lt l p s0 r0 s r∧Row c t (w.alloc (.cells #[.func (.func F) #[] lb,.func (.func f) #[] sb] 190)) g l wr) (fun sv rv _=>(intOf rv).toNat-(intOf sv).toNat)
  case atStart=>exact⟨s0,r0,rfl,rfl,⟨AB _,hsr,AB _,.inl rfl,.inl rfl⟩,HR0.out⟩
  case round=>
   clear HR0;obtain⟨s,r,rfl,rfl,⟨hs1,hsr1,hr1,h3,h4⟩,hr⟩:=hrel;have H3:=AA h3;have H4:=AA h4;have HR:=AA hr;clear h3 h4 hr;have c0:wr.cell? ⟨w.heap.size,0,none⟩=some (.func (.func F) #[] lb):=(HR.out.box (Blk.new w _ _) (by omega)).cell 0;by_cases hlt:s<r
   ·have dl:decide ((s:Int)<(r:Int))=true:=by simp;omega
    obtain⟨h,hh⟩:∃h,h=(s+r)/2:=⟨_,rfl⟩;have hhi:((s:Int)+(r:Int))/2=(h:Int):=by omega
    have hih:s≤h:=by omega
    have hhj:h<r:=by omega
    clear hh;obtain⟨k,hk⟩:∃k,k=p-h:=⟨_,rfl⟩;have hki:(p:Int)-(h:Int)=(k:Int):=by omega
    have hkb:k<b:=by omega
    have HKk:=AA hk;clear hk;obtain⟨x,hx⟩:∃x,l[h]? =some x:=⟨_,AE (by rw[HN.out];omega)⟩;obtain⟨y,hy⟩:∃y,l[k]? =some y:=⟨_,AE (by rw[HN.out];omega)⟩;have HL:=AA (HLe.out wr l k h y x (HRow.out.trans HR.out.off) HP.out hy hx);have HXx:=AA hx;have HYy:=AA hy;clear hx hy;cases hlv:lt y x with
    |false=>
     rw[hlv]at HL;go_wp2_with fail
     refine HL.out.mono ?_;rintro e w2 ⟨rfl,hb2⟩;go_wp2;go_roundw
     case rel=>exact⟨h+1,r,by go_num,rfl,⟨by omega,by omega,hr1,.inr ⟨y,x,by rw[Nat.add_sub_cancel,←HKk.out];exact HYy.out,HXx.out,hlv⟩,H4.out⟩,HR.out.below hb2⟩
     case measure=>simp[intOf];omega
    |true=>
     rw[hlv]at HL;go_wp2_with fail
     refine HL.out.mono ?_;rintro e w2 ⟨rfl,hb2⟩;go_wp2;go_roundw
     case rel=>exact⟨s,h,rfl,rfl,⟨hs1,by omega,by omega,H3.out,.inr ⟨y,x,by rw[←HKk.out];exact HYy.out,HXx.out,hlv⟩⟩,HR.out.below hb2⟩
     case measure=>simp[intOf];omega
   ·have dl:decide ((s:Int)<(r:Int))=false:=by simp;omega
    obtain rfl:r=s:=by omega
    have hfl:=Md HO.out (l:=l) HMid.out (by omega) (by omega) HPp.out HS.out HX.out HY.out ⟨hs1,AB _,hr1,H3.out,H4.out⟩;obtain⟨z1,z2,z3,z4,z5,f1,f2⟩:=hfl;obtain⟨e,he⟩:∃e,e=mid+m-r:=⟨_,rfl⟩;rw[←he]at z4 z5 f1 f2;have HF1:=AA f1;have HF2:=AA f2;have hei:(nn:Int)-(r:Int)=(e:Int):=by omega
    have hem1:mid+m≤r+e:=by omega
    have hem2:r+e≤mid+m:=by omega
    have HE:Hid (mid+m=r+e):=Nat.le_antisymm hem1 hem2;clear f1 f2 he H3 H4 HS;obtain⟨q1,hq1⟩:∃q,q=(decide (r<m)&&decide (r<mid)):=⟨_,rfl⟩;have HQq1:=AA hq1;clear hq1;go_upto_region 40 with fail
    go_cut[22,145] (fun ev bv wx=>ev= .int .i64 (e:Int)∧bv= .bool q1∧Row c t (w.alloc (.cells #[.func (.func F) #[] lb,.func (.func f) #[] sb] 190)) g l wx)
    case first=>
     by_cases g1:r<m
     ·have d1:decide ((r:Int)<(m:Int))=true:=by simp;omega
      by_cases g2:r<mid
      ·have d2:decide ((m:Int)<(e:Int))=true:=by simp;omega
       go_wp2;go_meet;exact⟨rfl,by rw[HQq1.out];simp[g1,g2] <;> omega,HR.out⟩
      ·have d2:decide ((m:Int)<(e:Int))=false:=by simp;omega
       go_wp2;go_meet;exact⟨rfl,by rw[HQq1.out];simp[g2] <;> omega,HR.out⟩
     ·have d1:decide ((r:Int)<(m:Int))=false:=by simp;omega
      go_wp2;go_meet;exact⟨rfl,by rw[HQq1.out];simp[g1] <;> omega,HR.out⟩
    case rest=>
     clear c0 HR;obtain⟨rfl,rfl,hr⟩:=hcut;have HR:=AA hr;clear hr;go_upto_if 145 with fail
     go_cut[22] (fun ev wx=>ev= .int .i64 (e:Int)∧∃l1,Row c t (w.alloc (.cells #[.func (.func F) #[] lb,.func (.func f) #[] sb] 190)) g l1 wx∧II lt l l1 a r m mid e b)
     case first=>
      cases q1 with
      |true=>
       have h1:r<m∧r<mid:=by have:=HQq1.out;simpa using this.symm
       have b1:r<m:=h1.1;have b2:m<e:=by omega
       have hrc:=NH (.func (.func F) #[] lb) HSw.out r m e (l.take r) (seg l r m) (seg l m e) (l.drop e) wc (by rw[←It (by omega) (by omega) (by rw[HN.out];omega)];exact HRow.out.trans HR.out.off) (by rw[←It (by omega) (by omega) (by rw[HN.out];omega)];exact HN.out) hsmall (by rw[AZ,HN.out];omega) (by rw[CX l (by rw[HN.out];omega)];omega) (by rw[CX l (by rw[HN.out];omega)];omega) (by rw[CX l (by rw[HN.out];omega)];omega) (by rw[CX l (by rw[HN.out];omega)];omega);have HRc:=AA hrc;clear hrc;have c0:wc.cell? ⟨w.heap.size,0,none⟩=some (.func (.func F) #[] lb):=(HR.out.box (Blk.new w _ _) (by omega)).cell 0;have c1:wc.cell? ⟨w.heap.size,1,none⟩=some (.func (.func f) #[] sb):=(HR.out.box (Blk.new w _ _) (by omega)).cell 1;go_wp2_with fail
       refine HRc.out.mono ?_;rintro en w2 ⟨rfl,hr2⟩;go_wp2;go_meet;have hkp:=OP (l:=l) (s:=r) (m:=m) (e:=e) (mid:=mid) (by omega) (by omega) (by rw[HN.out];omega) HE.out;exact⟨rfl,RK l r m e,HR.out.trans hr2,⟨z1,z2,z4,z5,by rw[HN.out];exact hb,HE.out,HX.out,HY.out,HF1.out,HF2.out,hkp.1,hkp.2.1,hkp.2.2⟩⟩
      |false=>
       have h1:¬(r<m∧r<mid):=by have:=HQq1.out;simpa using this.symm
       have hkp:=OQ (l:=l) (s:=r) (m:=m) (e:=e) (mid:=mid) HE.out (by omega);have HH:Hid (II lt l l a r m mid e b):=⟨z1,z2,z4,z5,by rw[HN.out];exact hb,HE.out,HX.out,HY.out,HF1.out,HF2.out,CB.refl _ _ _,hkp.1,hkp.2⟩;clear hkp;go_wp2;go_meet;exact⟨rfl,l,HR.out,HH.out⟩
     case rest=>
      clear HR HQq1 q1;obtain⟨rfl,l1,hr,hh⟩:=hcut;have HR:=AA hr;have HH:=AA hh;clear hr hh HF1 HF2;obtain⟨q2,hq2⟩:∃q,q=(decide (a<r)&&decide (r<mid)):=⟨_,rfl⟩;have HQq2:=AA hq2;clear hq2;go_upto_region 42 with fail
      go_cut[22,158] (fun ev bv wx=>ev= .int .i64 (e:Int)∧bv= .bool q2∧Row c t (w.alloc (.cells #[.func (.func F) #[] lb,.func (.func f) #[] sb] 190)) g l1 wx)
      case first=>
       by_cases g1:a<r
       ·have d1:decide ((a:Int)<(r:Int))=true:=by simp;omega
        by_cases g2:r<mid
        ·have d2:decide ((r:Int)<(mid:Int))=true:=by simp;omega
         go_wp2;go_meet;exact⟨rfl,by rw[HQq2.out];simp[g1,g2] <;> omega,HR.out⟩
        ·have d2:decide ((r:Int)<(mid:Int))=false:=by simp;omega
         go_wp2;go_meet;exact⟨rfl,by rw[HQq2.out];simp[g2] <;> omega,HR.out⟩
       ·have d1:decide ((a:Int)<(r:Int))=false:=by simp;omega
        go_wp2;go_meet;exact⟨rfl,by rw[HQq2.out];simp[g1] <;> omega,HR.out⟩
      case rest=>
       clear HR;obtain⟨rfl,rfl,hr⟩:=hcut;have HR:=AA hr;clear hr;go_upto_if 158 with fail
       go_cut[22] (fun ev wx=>ev= .int .i64 (e:Int)∧∃l2,Row c t (w.alloc (.cells #[.func (.func F) #[] lb,.func (.func f) #[] sb] 190)) g l2 wx∧CB l1 l2 a mid∧Asc lt (seg l2 a mid))
       case first=>
        cases q2 with
        |true=>
         have h1:a<r∧r<mid:=by have:=HQq2.out;simpa using this.symm
         have c0:wc.cell? ⟨w.heap.size,0,none⟩=some (.func (.func F) #[] lb):=(HR.out.box (Blk.new w _ _) (by omega)).cell 0;have c1:wc.cell? ⟨w.heap.size,1,none⟩=some (.func (.func f) #[] sb):=(HR.out.box (Blk.new w _ _) (by omega)).cell 1;have HLc:=AA (HRec.out a r mid l1 wc (by omega) (HRow.out.trans HR.out.off) (HH.out.k1.perm.trans HP.out) (HH.out.k1.len.trans HN.out) h1.1 h1.2 (by omega) HH.out.left.1 HH.out.left.2);go_wp2_with fail
         refine HLc.out.mono ?_;rintro en w3 ⟨rfl,l2,hr3,k2,z2'⟩;go_wp2;go_meet;exact⟨rfl,l2,HR.out.trans hr3,k2,z2'⟩
        |false=>
         have h1:¬(a<r∧r<mid):=by have:=HQq2.out;simpa using this.symm
         go_wp2;go_meet;exact⟨rfl,l1,HR.out,CB.refl _ _ _,HH.out.leftNone (by omega)⟩
       case rest=>
        clear HR HQq2 q2;obtain⟨rfl,l2,hr,hk2,hz2⟩:=hcut;have HR:=AA hr;have HK2:=AA hk2;have HZ2:=AA hz2;clear hr hk2 hz2;obtain⟨q3,hq3⟩:∃q,q=(decide (mid<e)&&decide (e<b)):=⟨_,rfl⟩;have HQq3:=AA hq3;clear hq3;go_upto_region 44 with fail
        go_cut[22,171] (fun ev bv wx=>ev= .int .i64 (e:Int)∧bv= .bool q3∧Row c t (w.alloc (.cells #[.func (.func F) #[] lb,.func (.func f) #[] sb] 190)) g l2 wx)
        case first=>
         by_cases g1:mid<e
         ·have d1:decide ((mid:Int)<(e:Int))=true:=by simp;omega
          by_cases g2:e<b
          ·have d2:decide ((e:Int)<(b:Int))=true:=by simp;omega
           go_wp2;go_meet;exact⟨rfl,by rw[HQq3.out];simp[g1,g2] <;> omega,HR.out⟩
          ·have d2:decide ((e:Int)<(b:Int))=false:=by simp;omega
           go_wp2;go_meet;exact⟨rfl,by rw[HQq3.out];simp[g2] <;> omega,HR.out⟩
         ·have d1:decide ((mid:Int)<(e:Int))=false:=by simp;omega
          go_wp2;go_meet;exact⟨rfl,by rw[HQq3.out];simp[g1] <;> omega,HR.out⟩
        case rest=>
         clear HR;obtain⟨rfl,rfl,hr⟩:=hcut;have HR:=AA hr;clear hr;cases q3 with
         |true=>
          have h1:mid<e∧e<b:=by have:=HQq3.out;simpa using this.symm
          have c0:wc.cell? ⟨w.heap.size,0,none⟩=some (.func (.func F) #[] lb):=(HR.out.box (Blk.new w _ _) (by omega)).cell 0;have c1:wc.cell? ⟨w.heap.size,1,none⟩=some (.func (.func f) #[] sb):=(HR.out.box (Blk.new w _ _) (by omega)).cell 1;have HLc:=AA (HRec.out mid e b l2 wc (by omega) (HRow.out.trans HR.out.off) (HK2.out.perm.trans (HH.out.k1.perm.trans HP.out)) (HK2.out.len.trans (HH.out.k1.len.trans HN.out)) h1.1 h1.2 hb (HH.out.right HK2.out).1 (HH.out.right HK2.out).2);go_wp2_with fail
          refine HLc.out.mono ?_;rintro en w4 ⟨rfl,l3,hr4,k3,z3'⟩;go_wp2;go_end0;obtain⟨q1,q2⟩:=HH.out.done HK2.out HZ2.out k3 z3';exact⟨rfl,l3,(HR.out.trans hr4).off,q1,q2⟩
         |false=>
          have h1:¬(mid<e∧e<b):=by have:=HQq3.out;simpa using this.symm
          go_wp2;go_end0;obtain⟨q1,q2⟩:=HH.out.done HK2.out HZ2.out (CB.refl _ _ _) (HH.out.rightNone HK2.out (by omega));exact⟨rfl,l2,HR.out.off,q1,q2⟩
theorem RO(eg:∀args w,(callFunc F args).run Tryz.prog w= .ok (.enter F args) w)(ho:Ord lt)(hle:D2 c t w0 g l0 lt F lb)(hsw:EM c t w0 g n f sb)(hsmall:n≤1000000):∀(k:Nat) (a m b:Nat) (l:List α) (w:World),b-a≤k→Row c t w0 g l w→l.Perm l0→l.length=n→a<m→m<b→b≤n→Asc lt (seg l a m)→Asc lt (seg l m b)→Calls Tryz.prog 180 #[.agg #[.func (.func F) #[] lb,.func (.func f) #[] sb],.int .i64 (a:Int),.int .i64 (m:Int),.int .i64 (b:Int)] w (Da c t g lt l a b w):=by
 intro k
 induction k with
 |zero=>intro a m b l w hk hrow hp hn ham hmb;omega
 |succ k ih=>
  intro a m b l w hk hrow hp hn ham hmb hb hX hY;by_cases h1:m=a+1
  ·exact OR eg ho hle hsw a m b l w hrow hp hn hsmall h1 hmb hb hY
  ·by_cases h2:b=m+1
   ·exact Pf eg ho hle hsw a m b l w hrow hp hn hsmall (by omega) h2 hb hX
   ·exact RN eg ho hle hsw a m b l w hrow hp hn hsmall (by omega) (by omega) hb hX hY (fun a' m' b' l' w' hk' hr' hp' hn' h3 h4 h5 h6 h7=>ih a' m' b' l' w' (by omega) hr' hp' hn' h3 h4 h5 h6 h7)
end
section
variable {α:Type}{c:α→List Value}{t:TypeId}{w0:World}{g n f F:Nat}{sb lb:Array Value}{lt:α→α→Bool}{l0:List α}
def Me(lt:α→α→Bool)(bs k:Nat)(l:List α):Prop:=
 (∀t,t<k→Asc lt (seg l (t*(2*bs)) ((t+1)*(2*bs))))∧∀t,2*k≤t→Asc lt (seg l (t*bs) ((t+1)*bs))
theorem EL.twos{bs:Nat}{l:List α}(h:EL lt bs l):Me lt bs 0 l:=⟨fun _ h=>absurd h (Nat.not_lt_zero _),fun t _=>h t⟩
theorem Me.step{bs k:Nat}{l l':List α}(h:Me lt bs k l)(hk:CB l l' (k*(2*bs)) ((k+1)*(2*bs)))(hs:Asc lt (seg l' (k*(2*bs)) ((k+1)*(2*bs)))):Me lt bs (k+1) l':=by
 refine⟨fun t ht=>?_,fun t ht=>?_⟩
 ·rcases Nat.lt_or_ge t k with h1|h1
  ·rw[hk.seg_lo (Nat.mul_le_mul_right _ h1)];exact h.1 t h1
  ·obtain rfl:t=k:=by omega
   exact hs
 ·have h1:(k+1)*(2*bs)≤t*bs:=by
   have:=Nat.mul_le_mul_right bs (show 2*(k+1)≤t from ht);rw[Nat.mul_comm 2 (k+1),Nat.mul_assoc]at this;exact this
  rw[hk.seg_hi h1];exact h.2 t (by omega)
theorem Me.parts{bs k:Nat}{l:List α}(h:Me lt bs k l):Asc lt (seg l (k*(2*bs)) (k*(2*bs)+bs))∧Asc lt (seg l (k*(2*bs)+bs) (k*(2*bs)+2*bs)):=by
 have h1:=h.2 (2*k) (AB _);have h2:=h.2 (2*k+1) (by omega);have e1:2*k*bs=k*(2*bs):=by rw[Nat.mul_comm 2 k,Nat.mul_assoc]
 have e2:(2*k+1)*bs=k*(2*bs)+bs:=by rw[Nat.add_mul,e1,Nat.one_mul]
 have e3:(2*k+1+1)*bs=k*(2*bs)+2*bs:=by rw[Nat.add_mul,e2,Nat.one_mul];omega
 rw[e1,e2]at h1;rw[e2,e3]at h2;exact⟨h1,h2⟩
theorem Mf(eg:∀args w,(callFunc F args).run Tryz.prog w= .ok (.enter F args) w)(ho:Ord lt)(hle:D2 c t w0 g l0 lt F lb)(hsw:EM c t w0 g n f sb)(l:List α)(w:World)(hrow:Row c t w0 g l w)(hp:l.Perm l0)(hn:l.length=n)(hsmall:n≤1000000):Calls Tryz.prog 122 #[.agg #[.func (.func F) #[] lb,.func (.func f) #[] sb],.int .i64 (n:Int)] w fun e w'=>e= .returned (.tuple #[])∧∃l',Row c t w g l' w'∧l'.Perm l∧Asc lt l':=by
 have HIns:Hid (∀(a b:Nat) (l':List α) (W:World),Row c t (w.alloc (.cells #[.func (.func F) #[] lb,.func (.func f) #[] sb] 190)) g l' W→l'.Perm l→a≤b→b≤n→Calls Tryz.prog 179 #[.agg #[.func (.func F) #[] lb,.func (.func f) #[] sb],.int .i64 (a:Int),.int .i64 (b:Int)] W (Da c t g lt l' a b W)):=
  fun a b l' W hr hq hab hb=>Jl eg ho hle hsw a b l' W (hrow.trans hr.off) (hq.trans hp) (hq.length_eq.trans hn) hsmall hab hb
 have HSym:Hid (∀(a m b:Nat) (l':List α) (W:World),Row c t (w.alloc (.cells #[.func (.func F) #[] lb,.func (.func f) #[] sb] 190)) g l' W→l'.Perm l→a<m→m<b→b≤n→Asc lt (seg l' a m)→Asc lt (seg l' m b)→Calls Tryz.prog 180 #[.agg #[.func (.func F) #[] lb,.func (.func f) #[] sb],.int .i64 (a:Int),.int .i64 (m:Int),.int .i64 (b:Int)] W (Da c t g lt l' a b W)):=
  fun a m b l' W hr hq ham hmb hb hX hY=>RO eg ho hle hsw hsmall _ a m b l' W (AB _) (hrow.trans hr.off) (hq.trans hp) (hq.length_eq.trans hn) ham hmb hb hX hY
 have HRow:=AA hrow;have HN:=AA hn;clear eg ho hle hsw hrow hp hn;have hgw:g<w.heap.size:=HRow.out.blk.lt;go_enter Tryz.func122,Tryz.ntmps122;go_wp2
 go_loopw [5,6] (fun av bv wr=>∃(k a b:Nat) (l':List α),av= .int .i64 (a:Int)∧bv= .int .i64 (b:Int)∧a=k*20∧b=a+20∧a≤n∧Row c t (w.alloc (.cells #[.func (.func F) #[] lb,.func (.func f) #[] sb] 190)) g l' wr∧l'.Perm l∧∀t,t<k→Asc lt (seg l' (t*20) ((t+1)*20))) (fun av _ _=>n-(intOf av).toNat)
 case atStart=>exact⟨0,0,20,l,rfl,rfl,by omega,by omega,by omega,Row.self (HRow.out.blk.alloc _),List.Perm.refl _,fun _ h=>absurd h (Nat.not_lt_zero _)⟩
 case round=>
  obtain⟨k,a,b,l',rfl,rfl,ha,hb,han,hr,hq,hs⟩:=hrel;have HR:=AA hr;have HQ:=AA hq;have HS:=AA hs;clear hr hq hs;have HA:=AA ha;have HB:=AA hb;have hab1:a+20≤b:=by omega
  have hab2:b≤a+20:=by omega
  clear ha hb;have c0:wr.cell? ⟨w.heap.size,0,none⟩=some (.func (.func F) #[] lb):=(HR.out.box (Blk.new w _ _) (by omega)).cell 0;have c1:wr.cell? ⟨w.heap.size,1,none⟩=some (.func (.func f) #[] sb):=(HR.out.box (Blk.new w _ _) (by omega)).cell 1;by_cases hbn:b≤n
  ·have db:decide ((b:Int)≤(n:Int))=true:=by simp;omega
   have HC:=AA (HIns.out a b l' wr HR.out HQ.out (by omega) hbn);go_wp2_with fail
   refine HC.out.mono ?_;rintro en w2 ⟨rfl,l2,hr2,k2,z2⟩;go_wp2;go_roundw
   case rel=>
    refine⟨k+1,b,b+20,l2,rfl,by go_num,by have:=HA.out;have:=HB.out;omega,rfl,hbn,HR.out.trans hr2,k2.perm.trans HQ.out,fun t ht=>?_⟩;have hA:=HA.out;have hB:=HB.out;rcases Nat.lt_or_ge t k with h1|h1
    ·rw[k2.seg_lo (by omega)];exact HS.out t h1
    ·obtain rfl:t=k:=by omega
     rw[show(t+1)*20=b from by omega,←hA];exact z2
   case measure=>simp[intOf];omega
  ·have db:decide ((b:Int)≤(n:Int))=false:=by simp;omega
   have HC:=AA (HIns.out a n l' wr HR.out HQ.out han (AB _));go_wp2_with fail
   refine HC.out.mono ?_;rintro en w2 ⟨rfl,l2,hr2,k2,z2⟩;have HR2:=AA (HR.out.trans hr2);have HQ2:=AA (k2.perm.trans HQ.out);have HCh:Hid (EL lt 20 l2):=by
    intro t;have hA:=HA.out;have hl2:l2.length=n:=(HQ2.out).length_eq.trans HN.out;rcases Nat.lt_trichotomy t k with h1|h1|h1
    ·rw[k2.seg_lo (by omega)];exact HS.out t h1
    ·subst h1;rw[DR l2 (by have:=HB.out;omega),hl2,←hA];exact z2
    ·rw[Bu l2 (.inl (by have:=HB.out;omega))];exact Asc.nil
   clear hr2 k2 z2 c0 c1 HR HQ HS HC;go_wp2
   go_loopw [4] (fun sv wr=>∃(bs:Nat) (l':List α),sv= .int .i64 (bs:Int)∧0<bs∧bs≤2000000∧Row c t (w.alloc (.cells #[.func (.func F) #[] lb,.func (.func f) #[] sb] 190)) g l' wr∧l'.Perm l∧EL lt bs l') (fun sv _=>n-(intOf sv).toNat)
   case atStart=>exact⟨20,l2,rfl,by omega,by omega,HR2.out,HQ2.out,HCh.out⟩
   case round=>
    clear HR2 HQ2 HCh;obtain⟨bs,l3,rfl,hbs,hbs2,hr,hq,hch⟩:=hrel;have HR:=AA hr;have HQ:=AA hq;have HCh:=AA hch;clear hr hq hch;by_cases hlt:bs<n
    ·have dl:decide ((bs:Int)<(n:Int))=true:=by simp;omega
     go_wp2
     go_loopw [5,6] (fun av bv wr=>∃(k a b:Nat) (l':List α),av= .int .i64 (a:Int)∧bv= .int .i64 (b:Int)∧a=k*(2*bs)∧b=a+2*bs∧a≤n∧Row c t (w.alloc (.cells #[.func (.func F) #[] lb,.func (.func f) #[] sb] 190)) g l' wr∧l'.Perm l∧Me lt bs k l') (fun av _ _=>n-(intOf av).toNat)
     case atStart=>exact⟨0,0,2*bs,l3,rfl,by go_num,by omega,by omega,by omega,HR.out,HQ.out,HCh.out.twos⟩
     case round=>
      clear HR HQ HCh;obtain⟨k,a,b,l4,rfl,rfl,ha,hb,han,hr,hq,htw⟩:=hrel;have HR:=AA hr;have HQ:=AA hq;have HT:=AA htw;have HA:=AA ha;have HB:=AA hb;have hab1:a+2*bs≤b:=by omega
      have hab2:b≤a+2*bs:=by omega
      clear hr hq htw ha hb;have HL4:Hid (l4.length=n):=HQ.out.length_eq.trans HN.out;have HP1:Hid (Asc lt (seg l4 a (a+bs))∧Asc lt (seg l4 (a+bs) b)):=by
       have h:=HT.out.parts;rw[←HA.out]at h;rw[HB.out];exact h
      have HEnd:Hid (b=(k+1)*(2*bs)):=by
       unfold Hid;rw[HB.out,HA.out,Nat.add_mul,Nat.one_mul]
      have c0:wr.cell? ⟨w.heap.size,0,none⟩=some (.func (.func F) #[] lb):=(HR.out.box (Blk.new w _ _) (by omega)).cell 0;have c1:wr.cell? ⟨w.heap.size,1,none⟩=some (.func (.func f) #[] sb):=(HR.out.box (Blk.new w _ _) (by omega)).cell 1;by_cases hbn:b≤n
      ·have db:decide ((b:Int)≤(n:Int))=true:=by simp;omega
       obtain⟨m,hm⟩:∃m,m=a+bs:=⟨_,rfl⟩;have hmi:(a:Int)+(bs:Int)=(m:Int):=by omega
       have hm1:m≤a+bs:=by omega
       have hm2:a+bs≤m:=by omega
       rw[←hm]at HP1;clear hm;have HC:=AA (HSym.out a m b l4 wr HR.out HQ.out (by omega) (by omega) hbn HP1.out.1 HP1.out.2);go_wp2_with fail
       refine HC.out.mono ?_;rintro en w2 ⟨rfl,l5,hr2,k2,z2⟩;go_wp2;go_roundw
       case rel=>
        refine⟨k+1,b,b+2*bs,l5,rfl,by go_num,HEnd.out,rfl,hbn,HR.out.trans hr2,k2.perm.trans HQ.out,?_⟩;rw[HA.out,HEnd.out]at k2 z2;exact HT.out.step k2 z2
       case measure=>simp[intOf];omega
      ·have db:decide ((b:Int)≤(n:Int))=false:=by simp;omega
       obtain⟨m,hm⟩:∃m,m=a+bs:=⟨_,rfl⟩;have hmi:(a:Int)+(bs:Int)=(m:Int):=by omega
       have hm1:m≤a+bs:=by omega
       have hm2:a+bs≤m:=by omega
       rw[←hm]at HP1;clear hm;by_cases hmn:m<n
       ·have dm:decide ((m:Int)<(n:Int))=true:=by simp;omega
        have HC:=AA (HSym.out a m n l4 wr HR.out HQ.out (by omega) hmn (AB _) HP1.out.1 (by have h:=HP1.out.2;rw[DR l4 (by rw[HL4.out];omega),HL4.out]at h;exact h));go_wp2_with fail
        refine HC.out.mono ?_;rintro en w2 ⟨rfl,l5,hr2,k2,z2⟩;go_wp2;go_roundw
        case rel=>
         have hl5:l5.length=n:=k2.len.trans HL4.out;refine⟨2*bs,l5,by go_num,by omega,by omega,HR.out.trans hr2,k2.perm.trans HQ.out,EL.twice (k:=k) (fun t ht=>?_) ?_ (by rw[hl5,←HEnd.out];omega)⟩
         ·rw[k2.seg_lo (by rw[HA.out];exact Nat.mul_le_mul_right _ ht)];exact HT.out.1 t ht
         ·rw[←HEnd.out,←HA.out,DR l5 (by rw[hl5];omega),hl5];exact z2
        case measure=>simp[intOf];omega
       ·have dm:decide ((m:Int)<(n:Int))=false:=by simp;omega
        go_wp2;go_roundw
        case rel=>
         refine⟨2*bs,l4,by go_num,by omega,by omega,HR.out,HQ.out,EL.twice (k:=k) HT.out.1 ?_ (by rw[HL4.out,←HEnd.out];omega)⟩;have h:=HP1.out.1;rw[DR l4 (by rw[HL4.out];omega)]at h;rw[←HEnd.out,←HA.out,DR l4 (by rw[HL4.out];omega)];exact h
        case measure=>simp[intOf];omega
    ·have dl:decide ((bs:Int)<(n:Int))=false:=by simp;omega
     go_wp2;go_end0;exact⟨rfl,l3,HR.out.off,HQ.out,HCh.out.all (by rw[HQ.out.length_eq,HN.out];omega)⟩
end
end
end Go.Proofs.YtadllffeoibelaaGreat
