/-
  Parts of the proof. No condition.
-/
import Derived.Test.YtadllffeoibelaaGreatS14
open Go.Proofs.Tryz
namespace Go.Proofs.YtadllffeoibelaaGreat
set_option maxRecDepth 100000
set_option maxHeartbeats 32000000
set_option linter.all false
section
open Go.RowKit Go.Shelf
attribute [local go_sem ↓] Go.wp_at_zero Go.wp_at_succ Aj Ao Ap Aq
attribute [local go_sem] Ax BB BC BD AK AR AN
theorem QZ{α:Type}{f:α->Vt}{l:List α}:∀{i:Nat} {s:α},s∈Di f l i->s∈l
 |0,_,h=>by cases h
 |i+1,s,h=>by
  rw[Di]at h;rcases AP.1 h with h|h
  ·exact QZ h
  ·rcases hx:l[i]? with _|x
   ·rw[hx]at h;cases h
   ·rw[hx]at h;dsimp only at h;split at h
    ·rw[AU.1 h];exact AM hx
    ·cases h
def VP(D:List Vt)(w:World)(pb:Nat)(v:Value)(e:Ending)(w3:World):Prop:=
 e= .returned (.tuple #[])/\Blk w3 pb 56 #[v]/\ZN w w3/\∃(l3:List Vt) (A:Option Addr) (c:Nat),v= .slice A l3.length c/\l3.Perm D/\(D.length<=12->Asc BU l3)/\Rd w3 w3.heap.size A (l3.flatMap vtc)
theorem TJ(w W:World)(pb:Nat)(v:Value)(D:List Vt)(xA:W.ownsRow w.heap.size 46 22 v D.length (D.flatMap vtc))(hb:ZN w W)(hpb:Blk W pb 56 #[v])(hsm:D.length<=1000000):Calls prog 116 #[.iface 56 v,.func (.func 221) #[] #[.pointer (some ⟨pb,0,none⟩)]] W (VP D w pb v):=by
 rcases GH xA with⟨rfl,h0,_⟩|⟨g,cap,T,rfl,hg,xm,zx⟩
 ·refine(JB KS 0 W).mono ?_;rintro e w3 ⟨rfl,hb3⟩;have hD:D=[]:=AV h0;subst hD;exact⟨rfl,hpb.below hb3 hpb.lt,hb.trans (hb3.mono hb.size),[],none,0,rfl,List.Perm.refl _,fun _=>Asc.nil,Rd.nil⟩
 ·have hne:pb≠g:=by
   intro e;subst e;unfold Blk at hpb xm;rw[hpb]at xm;injection xm with hh
   injection hh with _ ht
   exact absurd ht (by decide)
  have hl:=QB T pb g D.length cap D W hpb hne rfl;have key:Calls prog 116 #[.iface 56 (.slice (some ⟨g,0,none⟩) D.length cap),.func (.func 221) #[] #[.pointer (some ⟨pb,0,none⟩)]] W fun e w3=>e= .returned (.tuple #[])/\∃l',B3 ⟨vtc,T⟩ 46 W g l' w3/\l'.Perm D/\(D.length<=12->Asc BU l'):=by
   by_cases h12:D.length<=12
   ·exact(PP KS ⟨vtc,T⟩ (fun _=>rfl) (fun x v hv=>BO x hv) Yy (fun args W=>KT args W) D g D.length cap W hl xm rfl h12).mono fun e w3 ⟨a,l',b,c,d⟩=>⟨a,l',b,c,fun _=>d⟩
   ·exact(JA KS ⟨vtc,T⟩ (fun _=>rfl) (by decide) (fun x v hv=>BO x hv) (fun args W=>KT args W) D g D.length cap W hl xm rfl hsm).mono fun e w3 ⟨a,l',b,c⟩=>⟨a,l',b,c,fun h=>absurd h h12⟩
  refine key.mono ?_;rintro e w3 ⟨rfl,l3,hr3,hp3,ha3⟩;refine⟨rfl,hr3.box hpb hne,hb.grown hr3.kept hb.size (ZJ hg),l3,_,cap,by rw[hp3.length_eq],hp3,ha3,?_⟩;refine Rd.mk hr3.blk.lt fun j u hu=>?_
  rw[hr3.blk.cell,Nat.zero_add,List.getElem?_toArray];show(l3.flatMap vtc++T)[j]? =some u;rw[List.getElem?_append_left (AE.1 hu).1,hu]
theorem TK(p:Nm)(A:Option Addr)(n c:Nat)(l:List Vt)(w:World)(hn:l.length=n)(hr:Rd w w.heap.size A (l.flatMap vtc))(hsm:n<=1000000):Calls prog 166 #[p.val,.slice A n c] w fun e w'=>∃(v:Value) (O:List Vt),e= .returned v/\(∀s∈O,s∈l/\s.parent=p)/\O.length<=n/\((l.filter fun s=>decide (s.parent=p)).length<=12->O=Nh p l)/\w'.ownsRow w.heap.size 46 22 v O.length (O.flatMap vtc)/\ZN w w':=by
 have HN:=AA hn;have HR:=AA hr;have zP:=AA (fun W pb v D h1 h2 h3 h4=>TJ w W pb v D h1 h2 h3 h4);clear hn hr;go_enter func166,ntmps166;go_upto_region 2 with fail
 obtain⟨w1,hw1⟩:=ZH ((w.alloc (.cells p.cells 24)).alloc (.cells #[.slice none 0 0] 56));rw[<-hw1];have xQ:ZN w w1:=by rw[hw1];exact((AC _ _).alloc (AB _) _).alloc (by simp) _
 have HB1:Hid (Blk w1 w.heap.size 24 p.cells):=by
  unfold Hid;rw[hw1];exact(Blk.new w _ _).alloc _
 have HB2:Hid (Blk w1 (w.heap.size+1) 56 #[.slice none 0 0]):=by
  unfold Hid;rw[hw1];have:=Blk.new (w.alloc (.cells p.cells 24)) 56 #[.slice none 0 0];simpa using this
 clear hw1;obtain⟨q,hq⟩:=ZH w.heap.size;obtain⟨pb,hpb⟩:=ZH (w.heap.size+1);rw[<-hpb,<-hq];rw[<-hpb]at HB2;rw[<-hq]at HB1;have hqp:q≠pb:=by omega
 have hqw:w.heap.size<=q:=by omega
 have hpw:w.heap.size<=pb:=by omega
 clear hq hpb;go_wp2
 go_loopw [13] (fun iv wr=>VM l p w q pb iv wr) (fun iv _=>n-(intOf iv).toNat)
 case atStart=>exact⟨0,_,[],rfl,Nat.zero_le _,Nat.zero_le _,by simp,⟨by simp,.inl ⟨rfl,rfl⟩⟩,xQ,HB1.out,HB2.out⟩
 case round=>
  clear xQ HB1 HB2;obtain⟨i,v,D,rfl,hin,hDi,hD,xA,hbw,hBq,hBp⟩:=hrel;rw[HN.out]at hin;have HD:=AA hD;have xK:=AA xA;have HBq:=AA hBq;have HBp:=AA hBp;have y1:AJ wr q 0 8=some p.cells:=hBq.row 8 rfl;have y2:wr.cell? ⟨pb,0,none⟩=some v:=hBp.cell 0;have hqr:q<wr.heap.size:=hBq.lt;have hpr:pb<wr.heap.size:=hBp.lt;clear hD xA hBq hBp;by_cases hi:i<n
  ·have di:=ZK (show i<n by omega)
   obtain⟨x,hx⟩:∃x,l[i]? =some x:=⟨_,AD (by rw[HN.out];exact hi)⟩;obtain⟨b,o,rfl,hb,xH⟩:=HR.out.cells (by intro e;have:=AY vtc 22 l (Cd l);rw[e,HN.out]at this;simp at this;omega);clear xH;have x1:AJ wr b (o+i*22) 22=some x.cells:=(HR.out.below hbw).voteRow hx;have yi:Hid ((l.take (i+1)).filter (fun s=>decide (s.parent=p))=(l.take i).filter (fun s=>decide (s.parent=p))++(if x.parent=p then[x]else[])):=by
    unfold Hid;rw[Ai,hx,List.filter_append];by_cases h:x.parent=p <;> simp[h]
   clear hx;go_upto_region 5 with(refine AI rfl 46 (.tmp 7) (.tmp 16) rfl wr.heap.size x.cells rfl rfl 46 Bi.cells (Blk.new wr _ _) (by rfl) (by kernel_rfl) (fun u hu=>BO x hu) ?_;intro w4 hB4 hg4 xc)
   have xM:Hid (w4.ownsRow w.heap.size 46 22 v D.length (D.flatMap vtc)):=Bb (xK.out.alloc _) hg4 (fun k hk=>by
    injection hk with hk
    subst hk;right;intro e;have:=(xK.out.lt _ e).2;omega)
   have xE:ZN w w4:=(hbw.alloc hbw.size _).grown hg4 (AG hbw.size (by simp)) (ZJ hbw.size);have hDp:Hid (Blk w4 q 24 p.cells):=(HBq.out.alloc _).kept hg4 (by intro e;injection e with e;omega);have yd:Hid (Blk w4 pb 56 #[v]):=(HBp.out.alloc _).kept hg4 (by intro e;injection e with e;omega);have hw4:w4.heap.size=wr.heap.size+1:=by rw[xc];simp
   obtain⟨z,hz⟩:=ZH wr.heap.size;rw[<-hz]at hB4 hw4 ⊢;have x2:AJ w4 z 6 8=some x.parent.cells:=x.row_parent hB4;have x3:AJ w4 z 0 22=some x.cells:=hB4.row 22 rfl;have y3:AJ w4 q 0 8=some p.cells:=hDp.out.row 8 rfl;have y4:w4.cell? ⟨pb,0,none⟩=some v:=yd.out.cell 0;have y5:w4.frozen? ⟨pb,0,none⟩=false:=yd.out.frozen 0;clear hB4 hg4 xc x1 y1 y2 hz xK HBq HBp hbw hw4;obtain⟨k,hk⟩:=ZH (decide (x.parent=p));have e1:∀W,(Op.equalIn 10000 24 (.agg x.parent.cells) (.agg p.cells)).run prog W= .ok k W:=fun W=>by rw[hk];exact ED x.parent p W 9998
   have HK:=AA hk;clear hk;try go_frame
   cases k with
   |false=>
    go_wp2;go_roundw
    case rel=>exact⟨i+1,v,D,by go_num,by rw[HN.out];omega,by omega,(by rw[yi.out,if_neg (of_decide_eq_false HK.out.symm),List.append_nil];exact HD.out),xM.out,xE,hDp.out,yd.out⟩
    case measure=>simp[intOf];omega
   |true=>
    have hxp:x.parent=p:=of_decide_eq_true HK.out.symm;have HXp:=AA hxp;clear hxp HK;go_wp2_with ((first
     |(refine BS rfl 56 46 (.tmp 22) rfl x.cells rfl underlying56 (by kernel_rfl) (by decide) (by decide) ?_)
     |(at_builtin;refine Ar rfl (.tmp 21) (.tmp 23) _ rfl w.heap.size 46 (.agg Bi.cells) 22 64 underlying56 CG rfl (by decide) v D.length (D.flatMap vtc) rfl ?r0 (w4.heap.size+1) (some ⟨w4.heap.size,0,none⟩) 1 1 (vtc x) rfl ?r1 ?r2 ?r3 ?r4 ?r5 ?r6 ?_)))
    case r0=>exact xM.out.alloc _
    case r1=>rfl
    case r2=>exact Rd.mk (by omega) (fun j u hu=>by rw[Nat.zero_add,(Blk.new w4 _ _).cell];simpa using hu)
    case r3=>exact fun u hu=>BO x hu
    case r4=>omega
    case r5=>unfold maxLen;omega
    case r6=>have:=xE.size;simp;omega
    intro v3 w3 xD hg3 yb;have hCy:some pb≠v.ownBlock:=CJ xM.out yd.out (by decide);have hGw:some q≠v.ownBlock:=CJ xM.out hDp.out (by decide);have HBq3:Hid (Blk w3 q 24 p.cells):=(hDp.out.alloc _).kept hg3 hGw;have hDq:Hid (Blk w3 pb 56 #[v]):=(yd.out.alloc _).kept hg3 hCy;have hGx:some pb≠v3.ownBlock:=CJ xD hDq.out (by decide);have xJ:ZN w w3:=BJ (xE.alloc xE.size _) (xM.out.alloc _) hg3;have y6:w3.cell? ⟨pb,0,none⟩=some v:=hDq.out.cell 0;have y7:w3.frozen? ⟨pb,0,none⟩=false:=hDq.out.frozen 0;obtain⟨g3,cap3,rfl⟩:=ownsRow_succ xD;have yM:=AA xD;clear xD hg3 yb hCy hGw;have HNe:=AA hGx;clear hGx;go_wp2;go_roundw
    case rel=>
     refine⟨i+1,_,D++[x],by go_num,by rw[HN.out];omega,by rw[AF];simp;omega,?_,?_,xJ.setCell hpw _,HBq3.out.far hqp _,hDq.out.put 0 _⟩
     ·rw[yi.out,if_pos HXp.out,<-HD.out]
     ·have h:=Bb yM.out (Bl (p:=⟨pb,0,none⟩) (Am w3 pb) rfl (.slice (some ⟨g3,0,none⟩) (D.length+1) cap3)) (ZJ (.inr (fun e=>HNe.out e.symm)));rw[AF,Af];simpa using h
    case measure=>simp[intOf];omega
  ·have di:=ZL (show n<=i by omega)
   have hDl:D.length<=n:=by omega
   have hAt:i=n:=by omega
   have HDl:Hid (D=l.filter fun s=>decide (s.parent=p)):=by
    have h:=HD.out;rw[hAt,<-HN.out,List.take_length]at h;exact h
   have hDs:D.length<=1000000:=by omega
   clear hAt;have yW:=AA (zP.out wr pb v D xK.out hbw HBp.out hDs);clear xK HBq y1 zP;go_wp2_with fail
   refine yW.out.mono ?_;rintro en w3 ⟨rfl,hB3,hb3,l3,A3,c3,rfl,hp3,ha3,hr3⟩;obtain⟨n3,hn3⟩:=ZI l3.length;rw[hn3]at hB3 ⊢;have HB3:=AA hB3;have HR3:=AA hr3;have HP3:=AA hp3;have HA3:=AA ha3;clear ha3;have HL3:=AA hn3;have hn3n:n3<=n:=by rw[<-hn3,hp3.length_eq];exact hDl
   have z1:w3.cell? ⟨pb,0,none⟩=some (.slice A3 n3 c3):=hB3.cell 0;have hEw:pb<w3.heap.size:=hB3.lt;clear hB3 hr3 hp3 hn3 yW y2 HBp;go_wp2
   go_loopw [8,32] (fun v iv wr=>TG l3 w3 v iv wr) (fun _ iv _=>n3-(intOf iv).toNat)
   case atStart=>exact⟨0,[],rfl,Nat.zero_le _,AB _,rfl,⟨by simp,.inl ⟨rfl,rfl⟩⟩,AC _ _⟩
   case round=>
    clear z1;obtain⟨i2,O,rfl,hBW,hOi,hO,hAf,hbr⟩:=hrel;rw[HL3.out]at hBW;have HO:=AA hO;have HOv:=AA hAf;have hOs:O.length<=1000000:=by omega
    clear hO hAf;by_cases hi2:i2<n3
    ·have di2:=ZK (show i2<n3 by omega)
     obtain⟨x,hx⟩:∃x,l3[i2]? =some x:=⟨_,AD (by rw[HL3.out];exact hi2)⟩;obtain⟨b3,o3,rfl,zY,xH⟩:=HR3.out.cells (by intro e;have:=AY vtc 22 l3 (Cd l3);rw[e,HL3.out]at this;simp at this;omega);clear xH;have x1:AJ wr b3 (o3+i2*22) 22=some x.cells:=(HR3.out.below hbr).voteRow hx;have HTh:Hid (Di id l3 (i2+1)=Di id l3 i2++if(i2=0∨(l3[i2-1]?.map id)≠some x)then[x]else[]):=by
      unfold Hid;rw[Di,hx];rfl
     obtain⟨r,hrr⟩:=ZH ((decide (i2=0)||decide ((l3[i2-1]?.map id)≠some x)));have HRr:=AA hrr;clear hrr;have HXx:=AA hx;clear hx;go_upto_region 13 with(refine AI rfl 46 (.tmp 10) (.tmp 36) rfl wr.heap.size x.cells rfl rfl 46 Bi.cells (Blk.new wr _ _) (by rfl) (by kernel_rfl) (fun u hu=>BO x hu) ?_;intro w4 hB4 hg4 xc)
     have hBX:Hid (w4.ownsRow w3.heap.size 46 22 u8 O.length (O.flatMap vtc)):=Bb (HOv.out.alloc _) hg4 (fun k hk=>by
      injection hk with hk
      subst hk;right;intro e;have:=(HOv.out.lt _ e).2;omega)
     have yP:ZN w3 w4:=(hbr.alloc hbr.size _).grown hg4 (AG hbr.size (by simp)) (ZJ hbr.size);have hw4:w4.heap.size=wr.heap.size+1:=by rw[xc];simp
     have HBx:=AA hB4;obtain⟨z,hz⟩:=ZH wr.heap.size;rw[<-hz]at HBx hw4 ⊢;have hz4:z<w4.heap.size:=by omega
     clear hB4 hg4 xc x1 hz HOv hbr;go_frame;go_cut[47] (fun bv wx=>bv= .bool r/\∃k,wx=w4.drewN k)
     case first=>
      by_cases h0:i2=0
      ·subst h0;refine rgD (fun _=>True) (trivial) fun _=>?_
       iterate 3 (refine tkA ?_;go_frame)
       refine skD 40 3 ?_;go_frame;refine skD 41 4 ?_;go_frame;refine skD 42 5 ?_;go_frame;refine skD 43 6 ?_;go_frame;refine skD 44 7 ?_;go_frame;refine skD 45 8 ?_;go_frame;refine skD 46 9 ?_;go_frame;refine tkD 47 10 ?_;go_frame;refine dnD ?_;go_wp2_with fail
       go_meet;exact⟨by rw[HRr.out];rfl,1,rfl⟩
      ·have d0:decide ((i2:Int)=0)=false:=by simp;omega
       have d0b:((i2:Int)==0)=false:=by simp;omega
       obtain⟨y,hy⟩:∃y,l3[i2-1]? =some y:=⟨_,AD (by rw[HL3.out];omega)⟩;obtain⟨j,hj⟩:=ZH (i2-1);rw[<-hj]at hy;have hji:(i2:Int)-1=(j:Int):=by omega
       have hjn:j<n3:=by omega
       have hwj:IntKind.i64.wrap (j:Int)=(j:Int):=BI _ (by omega);have HJ:=AA hj;clear hj;obtain⟨k,hk⟩:=ZH (decide (x=y));have e1:∀W,(Op.equalIn 10000 46 (.agg x.cells) (.agg y.cells)).run prog W= .ok k W:=fun W=>by rw[hk];exact U1 x y W
       have HYy:=AA hy;have HKk:=AA hk;clear hk hy;have xT:Hid (∀V,ZN w4 V->AJ V z 0 22=some x.cells/\V.cell? ⟨pb,0,none⟩=some (.slice (some ⟨b3,o3,none⟩) n3 c3)/\AJ V b3 (o3+j*22) 22=some y.cells):=fun V hV=>
        ⟨(HBx.out.below hV hz4).row 22 rfl,((yP.trans (hV.mono yP.size)).cell (p:=⟨pb,0,none⟩) hEw).trans (HB3.out.cell 0),(HR3.out.below (yP.trans (hV.mono yP.size))).voteRow HYy.out⟩
       have hbx:ZN w4 w4:=AC _ _;refine rgD (fun w'=>AJ w' z 0 22=some x.cells/\w'.cell? ⟨pb,0,none⟩=some (.slice (some ⟨b3,o3,none⟩) n3 c3)/\AJ w' b3 (o3+j*22) 22=some y.cells) (xT.out _ hbx.drew) fun _=>?_
       iterate 11 (refine tkA ?_;go_frame)
       refine dnD ?_;go_wp2_with fail
       go_meet;refine⟨?_,1,rfl⟩;rw[HRr.out,<-HJ.out,HYy.out,HKk.out];simp[h0,eq_comm]
     case rest=>
      obtain⟨rfl,k,rfl⟩:=hcut;have hrq:AJ (w4.drewN k) z 0 22=some x.cells:=by rw[AN];exact HBx.out.row 22 rfl
      have hAh:Hid ((w4.drewN k).ownsRow w3.heap.size 46 22 u8 O.length (O.flatMap vtc)):=hBX.out;have yr:ZN w3 (w4.drewN k):=BL yP k;cases r with
      |true=>
       have hC:i2=0∨(l3[i2-1]?.map id)≠some x:=by
        have h:=HRr.out.symm;rw[Bool.or_eq_true,decide_eq_true_eq,decide_eq_true_eq]at h;exact h
       have HC:=AA hC;clear hC;clear hBX yP;generalize w4.drewN k=w5 at*;go_wp2_with ((first
        |(refine BS rfl 56 46 (.tmp 49) rfl x.cells rfl underlying56 (by kernel_rfl) (by decide) (by decide) ?_)
        |(at_builtin;refine Ar rfl (.tmp 48) (.tmp 50) _ rfl w3.heap.size 46 (.agg Bi.cells) 22 64 underlying56 CG rfl (by decide) u8 O.length (O.flatMap vtc) rfl ?r0 (w5.heap.size+1) (some ⟨w5.heap.size,0,none⟩) 1 1 (vtc x) rfl ?r1 ?r2 ?r3 ?r4 ?r5 ?r6 ?_)))
       case r0=>exact hAh.out.alloc _
       case r1=>rfl
       case r2=>exact Rd.mk (by omega) (fun j u hu=>by rw[Nat.zero_add,(Blk.new w5 _ _).cell];simpa using hu)
       case r3=>exact fun u hu=>BO x hu
       case r4=>omega
       case r5=>unfold maxLen;omega
       case r6=>have:=yr.size;simp;omega
       intro v7 w7 xL hg7 xr;have hCw:ZN w3 w7:=BJ (yr.alloc yr.size _) (hAh.out.alloc _) hg7;have hEx:=AA xL;clear xL hg7 xr hrq hAh yr;go_wp2;go_roundw
       case rel=>
        refine⟨i2+1,O++[x],by go_num,by rw[HL3.out];omega,by rw[AF];simp;omega,?_,?_,hCw⟩
        ·rw[HTh.out,if_pos HC.out,<-HO.out]
        ·have h:=hEx.out;rw[AF,Af];simpa using h
       case measure=>simp[intOf];omega
      |false=>
       have hC:¬(i2=0∨(l3[i2-1]?.map id)≠some x):=by
        have h:=HRr.out.symm;rw[Bool.or_eq_false_iff,decide_eq_false_iff_not,decide_eq_false_iff_not]at h;intro hh;rcases hh with hh|hh
        ·exact h.1 hh
        ·exact h.2 hh
       have HC:=AA hC;clear hC;clear hBX yP hrq;generalize w4.drewN k=w5 at*;go_wp2;go_roundw
       case rel=>exact⟨i2+1,O,by go_num,by rw[HL3.out];omega,by omega,(by rw[HTh.out,if_neg HC.out,List.append_nil];exact HO.out),hAh.out,yr⟩
       case measure=>simp[intOf];omega
    ·have di2:=ZL (show n3<=i2 by omega)
     go_wp2;go_ret;have hi3:i2=l3.length:=by rw[HL3.out];omega
     have hOm:∀s∈O,s∈l/\s.parent=p:=fun s hs=>by
      rw[HO.out]at hs;have h:=HP3.out.mem_iff.1 (QZ hs);rw[HDl.out]at h;obtain⟨h1,h2⟩:=List.mem_filter.1 h;exact⟨h1,of_decide_eq_true h2⟩
     exact⟨u8,O,rfl,hOm,by omega,fun h12=>by rw[HO.out,hi3];exact TF (by rw[<-HDl.out];exact HP3.out) (HA3.out (by rw[HDl.out];exact h12)),BE HOv.out hb3.size,hb3.trans (hbr.mono hb3.size)⟩
theorem TL(M:Int)(nC:Nat)(A:Option Addr)(c:Nat)(v:Vt)(w:World)(hv:Ab v)(hk:¬v.kind<=4):Calls prog 167 #[.int .i64 M,v.val,.slice A nC c] w fun e w'=>e= .returned (.bool false)/\ZN w w':=by
 obtain⟨W1,hW1⟩:=ZH (w.alloc (Obj.cells v.cells 46));have xQ:ZN w W1:=by rw[hW1];exact(AC _ _).alloc (AB _) _
 have hBv:Blk W1 w.heap.size 46 v.cells:=by rw[hW1];exact Blk.new _ _ _
 have hs1:W1.heap.size=w.heap.size+1:=by rw[hW1];simp
 have zD:Hid (∀W,Calls prog 49 #[v.val] W (Ac W true)):=fun W=>by
  have h:=DA v W ⟨by have:=hv.2.2.2.1;omega,by have:=hv.2.2.2.1;omega⟩;rwa[decide_eq_true hv]at h
 have HF1:Hid (∀W,ZN W1 W->AJ W w.heap.size 0 22=some v.cells/\W.cell? ⟨w.heap.size,0,none⟩=some (I v.kind)):=fun W hW=>⟨(hBv.below hW (by omega)).row 22 rfl,(hBv.below hW (by omega)).cell 0⟩
 have dk:decide (v.kind>4)=true:=by simp;omega
 have HW:=AA hW1;have HB1:=AA xQ;clear hW1 xQ hBv hv hk hs1;go_enter func167,ntmps167;go_upto_region 1 with fail
 simp only[<-HW.out];have xC:ZN W1 W1:=AC _ _;obtain⟨x0,y0⟩:=HF1.out _ xC;go_wp2_with (go_at_call 49;refine(zD.out _).mono ?_;rintro en wa ⟨rfl,hba⟩;replace xC:=xC.trans (hba.mono xC.size);obtain⟨x0,y0⟩:=HF1.out _ xC;clear zD)
 go_ret;exact⟨rfl,HB1.out.trans (xC.mono HB1.out.size)⟩
def Me(M:Int)(q:Nat)(v:Vt)(C:List Vt)(b:Bool):Prop:=(b=true->v.kind<=4)/\(v.kind<=4->DI M q v C b)
theorem KX(M:Int)(nC:Nat)(A:Option Addr)(c:Nat)(C:List Vt)(v:Vt)(w:World)(hn:C.length=nC)(hr:Rd w w.heap.size A (C.flatMap vtc))(hC:∀s∈C,S8 M v s)(hsm:nC<=1000000)(hv:Ab v)(hsl:(xOf M).testBit v.slot.toNat=true):Calls prog 167 #[.int .i64 M,v.val,.slice A nC c] w fun e w'=>∃b,e= .returned (.bool b)/\ZN w w'/\Me M (CH (Aw (xOf M) 10)) v C b:=by
 by_cases hk:v.kind<=4
 ·exact(Nc M nC A c C v w hn hr hC hsm hv hk hsl).mono fun e w' ⟨b,h1,h2,h3⟩=>⟨b,h1,h2,fun _=>hk,fun _=>h3⟩
 ·exact(TL M nC A c v w hv hk).mono fun e w' ⟨h1,h2⟩=>⟨false,h1,h2,fun h=>(by cases h),fun h=>absurd h hk⟩
end
section
open Go.RowKit
attribute [local go_sem ↓] Go.wp_at_zero Go.wp_at_succ Aj Ao Ap Aq
attribute [local go_sem] Ax BB BC BD AK AR AN
def SmP(p:Nm)(l:List Vt):Prop:=(∀v∈l,v.kind<=4/\¬(v.kind=4/\v.choice=2))/\(l.filter fun s=>decide (s.parent=p)).length<=12
def FP(M:Int)(p:Nm)(s:Int)(l O:List Vt):Prop:=S9 M p s l O/\(SmP p l->O=Gx M (Nh p l))
def VQ(M:Int)(p:Nm)(s:Int)(l D:List Vt)(w:World)(v fv iv:Value)(wr:World):Prop:=
 ∃(i:Nat) (O:List Vt),iv= .int .i64 (i:Int)/\fv= .int .i64 0/\i<=D.length/\O.length<=i/\(SmP p l->O=Gx M (D.take i))/\S9 M p s D O/\wr.ownsRow w.heap.size 46 22 v O.length (O.flatMap vtc)/\ZN w wr/\((v= .slice none 0 0/\O=[])∨0<O.length)
theorem KY(M:Int)(p:Nm)(A:Option Addr)(n c:Nat)(l:List Vt)(s:Int)(w0:World)(hn:l.length=n)(hr:Rd w0 w0.heap.size A (l.flatMap vtc))(hsm:n<=1000000)(hl:∀v∈l,Ab v/\v.slot=s)(hs:(xOf M).testBit s.toNat=true):Calls prog 114 #[.int .i64 M,p.val,.slice A n c] w0 fun e w'=>∃(v:Value) (O:List Vt),e= .returned v/\FP M p s l O/\O.length<=n/\w'.ownsRow w0.heap.size 46 22 v O.length (O.flatMap vtc)/\ZN w0 w':=by
 obtain⟨wa,hwa⟩:=ZH (w0.alloc (.cells p.cells 24));have hba:ZN w0 wa:=by rw[hwa];exact(AC _ _).alloc (AB _) _
 have y1:AJ wa w0.heap.size 0 8=some p.cells:=by rw[hwa];exact(Blk.new w0 _ _).row 8 rfl
 have hsa:wa.heap.size=w0.heap.size+1:=by rw[hwa];simp
 have hCa:=AA (TK p A n c l wa hn ((hr.below hba).more hba.size) hsm);have HL:=AA hl;have HS:=AA hs;have HWa:=AA hwa;clear hn hr hl hs hwa;go_enter func114,ntmps114;go_wp2;go_step3;go_wp2;go_step3;simp only[<-HWa.out];go_wp2_with fail
 refine hCa.out.mono ?_;rintro en w ⟨v0,D,rfl,hD,hDn,hDe,hCN,hbD⟩;have HDe:=AA hDe;clear hDe;have HD:Hid (∀x∈D,x∈l/\(Ab x/\x.slot=s)/\x.parent=p):=fun x hx=>⟨(hD x hx).1,HL.out x (hD x hx).1,(hD x hx).2⟩
 obtain⟨A1,c1,rfl,hR1⟩:∃A1 c1,v0= .slice A1 D.length c1/\Rd w w.heap.size A1 (D.flatMap vtc):=by
  rcases hCN.2 with⟨rfl,h0⟩|⟨g,cap,cur,rfl,_⟩
  ·exact⟨none,0,by rw[h0],.inl (AV (by rw[hCN.1,h0,Nat.zero_mul]))⟩
  ·exact⟨_,cap,rfl,Rd.of_own hCN⟩
 obtain⟨m,hm⟩:=ZI D.length;rw[hm]at hDn ⊢;have HM:=AA hm;have HR:=AA hR1;have yV:ZN w0 w:=hba.trans (hbD.mono hba.size);have hm6:m<=1000000:=by omega
 clear hm hD hCN hR1 y1 hCa;go_wp2
 go_loopw [7,8,15] (fun v fv iv wr=>VQ M p s l D w v fv iv wr) (fun _ _ iv _=>m-(intOf iv).toNat)
 case atStart=>exact⟨0,[],rfl,rfl,Nat.zero_le _,AB _,(fun _=>by simp[Gx]),⟨PN.nil M,fun x hx=>by cases hx⟩,⟨by simp,.inl ⟨rfl,rfl⟩⟩,AC _ _,.inl ⟨rfl,rfl⟩⟩
 case round=>
  obtain⟨i,O,rfl,rfl,hin,hOi,hOe,hO,xA,hbw,hDr⟩:=hrel;have HOe:=AA hOe;clear hOe;rw[HM.out]at hin;have HO:=AA hO;have xK:=AA xA;clear hO xA;have hO6:O.length<=1000000:=by omega
  by_cases hi:i<m
  ·have di:=ZK (show i<m by omega)
   obtain⟨x,hx⟩:∃x,D[i]? =some x:=⟨_,AD (by rw[HM.out];exact hi)⟩;obtain⟨b,o,rfl,hb,xH⟩:=HR.out.cells (by intro e;have:=AY vtc 22 D (Cd D);rw[e,HM.out]at this;simp at this;omega);clear xH;have x1:AJ wr b (o+i*22) 22=some x.cells:=(HR.out.below hbw).voteRow hx;have HX:=AA (HD.out x (AM hx));have HXD:=AA (AM hx);have yi:Hid (SmP p l->∀b,Me M (CH (Aw (xOf M) 10)) x O b->Gx M (D.take (i+1))=if b=true then O++[x]else O):=fun sm b hb=>by
    have hm:=sm.1 x (HD.out x (AM hx)).1;have hb:=hb.2 hm.1;rw[Ai,hx,HOe.out sm];rw[HOe.out sm]at hb;exact Rb hm.2 hb
   clear hx;rcases hDr with⟨rfl,rfl⟩|yF
   ·go_upto_region 6 with(refine AI rfl 46 (.tmp 10) (.tmp 18) rfl wr.heap.size x.cells rfl rfl 46 Bi.cells (Blk.new wr _ _) (by rfl) (by kernel_rfl) (fun u hu=>BO x hu) ?_;intro w4 hB4 hg4 xc)
    have xM:Hid (w4.ownsRow w.heap.size 46 22 (.slice none 0 0) 0 (([]:List Vt).flatMap vtc)):=Bb (xK.out.alloc _) hg4 (fun k hk=>by
     injection hk with hk
     subst hk;right;intro e;have:=(xK.out.lt _ e).2;omega)
    have xE:ZN w w4:=(hbw.alloc hbw.size _).grown hg4 (AG hbw.size (by simp)) (ZJ hbw.size);have hw4:w4.heap.size=wr.heap.size+1:=by rw[xc];simp
    obtain⟨z,hz⟩:=ZH wr.heap.size;rw[<-hz]at hB4 hw4 ⊢;have x3:AJ w4 z 0 22=some x.cells:=hB4.row 22 rfl;have x4:w4.cell? ⟨z,1,none⟩=some (.int .i64 x.slot):=hB4.cell 1;have hz4:z<w4.heap.size:=by omega
    have HRv:Hid (∀V,ZN w4 V->AJ V z 0 22=some x.cells):=fun V hV=>(hB4.below hV hz4).row 22 rfl
    clear hg4 xc x1 xK hz hw4;clear hB4;try go_frame
    go_cut[32] (fun bv wx=>bv= .bool false/\∃k,wx=w4.drewN k)
    case first=>
     refine rgD (fun _=>True) (trivial) fun _=>?_
     iterate 5 (refine tkA ?_;go_frame)
     refine skD 24 5 ?_;go_frame;refine skD 25 6 ?_;go_frame;refine skD 26 7 ?_;go_frame;refine skD 27 8 ?_;go_frame;refine skD 28 9 ?_;go_frame;refine skD 29 10 ?_;go_frame;refine skD 30 11 ?_;go_frame;refine skD 31 12 ?_;go_frame;refine tkD 32 13 ?_;go_frame;refine dnD ?_;go_wp2_with fail
     go_meet;exact⟨rfl,1,rfl⟩
    case rest=>
     obtain⟨rfl,k,rfl⟩:=hcut;have xx:Hid ((w4.drewN k).ownsRow w.heap.size 46 22 (.slice none 0 0) 0 (([]:List Vt).flatMap vtc)):=xM.out;have xP:ZN w (w4.drewN k):=BL xE k;have xn:ZN w4 (w4.drewN k):=BL (AC _ _) k;have zi:Hid (∀V,Below (w4.drewN k).heap.size (w4.drewN k) V->AJ V z 0 22=some x.cells):=fun V hV=>HRv.out V (xn.trans (hV.mono xn.size))
     have hz5:z<(w4.drewN k).heap.size:=hz4;clear xM xE xn HRv x3 x4;generalize w4.drewN k=w5 at*;have HAl:Hid (∀V,ZN w5 V->Calls prog 167 #[.int .i64 M,x.val,.slice none 0 0] V fun e w'=>∃b,e= .returned (.bool b)/\ZN V w'/\Me M (CH (Aw (xOf M) 10)) x ([]:List Vt) b):=fun V hV=>
      KX M 0 none 0 ([]:List Vt) x V rfl Rd.nil (fun t ht=>⟨(HO.out.2 t ht).2.1.1,(HO.out.2 t ht).2.1.2.1,((HO.out.2 t ht).2.2.1).trans HX.out.2.2.symm,((HO.out.2 t ht).2.1.2.2).trans HX.out.2.1.2.symm,(HO.out.2 t ht).2.2.2⟩) (by omega)
       HX.out.2.1.1 (by rw[HX.out.2.1.2];exact HS.out)
     have x6:AJ w5 z 0 22=some x.cells:=zi.out w5 (AC _ _);have hbx:ZN w5 w5:=AC _ _;go_wp2_with fail
     refine rgD (fun w'=>AJ w' z 0 22=some x.cells) (zi.out _ hbx.drew) fun _=>?_
     iterate 5 (refine tkA ?_;go_frame)
     refine rd1 5 fun K hK=>?_
     go_simp;refine(HAl.out _ hbx.drew).mono ?_;rintro en w6 ⟨r,rfl,hb6,hal⟩;have xy:=hbx.drew.trans (hb6.mono (AB _));have HAL:=AA hal;clear hal;go_wp2_with fail
     refine hK.out _ _ (zi.out _ xy) (fun _=>?_);clear hK K;try go_frame
     refine tkD 41 6 ?_;go_frame;refine dnD ?_;have xY:ZN w w6:=xP.trans (xy.mono xP.size);have yQ:Hid (w6.ownsRow w.heap.size 46 22 (.slice none 0 0) 0 (([]:List Vt).flatMap vtc)):=Ay xx.out xy (AB _);have x7:AJ w6 z 0 22=some x.cells:=zi.out _ xy;clear xx xP HAl zi xy hb6 x6 hbx;cases r with
     |false=>
      go_wp2;go_roundw
      case rel=>exact⟨i+1,([]:List Vt),by go_num,rfl,by rw[HM.out];omega,by simp,(fun sm=>by rw[yi.out sm false HAL.out];rfl),HO.out,yQ.out,xY,.inl ⟨rfl,rfl⟩⟩
      case measure=>simp[intOf];omega
     |true=>
      go_wp2_with ((first
       |(refine BS rfl 56 46 (.tmp 43) rfl x.cells rfl underlying56 (by kernel_rfl) (by decide) (by decide) ?_)
       |(at_builtin;refine Ar rfl (.tmp 42) (.tmp 44) _ rfl w.heap.size 46 (.agg Bi.cells) 22 64 underlying56 CG rfl (by decide) (.slice none 0 0) 0 (([]:List Vt).flatMap vtc) rfl ?r0 (w6.heap.size+1) (some ⟨w6.heap.size,0,none⟩) 1 1 (vtc x) rfl ?r1 ?r2 ?r3 ?r4 ?r5 ?r6 ?_)))
      case r0=>exact yQ.out.alloc _
      case r1=>rfl
      case r2=>exact Rd.mk (by omega) (fun j u hu=>by rw[Nat.zero_add,(Blk.new w6 _ _).cell];simpa using hu)
      case r3=>exact fun u hu=>BO x hu
      case r4=>omega
      case r5=>unfold maxLen;omega
      case r6=>have:=xY.size;simp;omega
      intro v7 w7 xL hg7 xr;have yR:ZN w w7:=BJ (xY.alloc xY.size _) (yQ.out.alloc _) hg7;have xU:=AA xL;clear xL hg7 xr x7 yQ;go_wp2;go_roundw
      case rel=>
       refine⟨i+1,([]:List Vt)++[x],by go_num,rfl,by rw[HM.out];omega,by rw[AF];simp,(fun sm=>by rw[yi.out sm true HAL.out];rfl),⟨HO.out.1.snoc (HAL.out.2 (HAL.out.1 rfl)),?_⟩,?_,yR,.inr (by rw[AF];simp)⟩
       ·intro t ht;rcases AP.1 ht with ht|ht
        ·exact HO.out.2 t ht
        ·rw[AU.1 ht];exact⟨HXD.out,⟨HX.out.2.1.1,HAL.out.1 rfl,HX.out.2.1.2⟩,HX.out.2.2,Lz (HAL.out.2 (HAL.out.1 rfl))⟩
       ·have h:=xU.out;rw[AF,Af];simpa using h
      case measure=>simp[intOf];omega
   ·obtain⟨g,cap,T,rfl,hg,xm,zx⟩:∃g cap T,u7= .slice (some ⟨g,0,none⟩) O.length cap/\w.heap.size<=g/\Blk wr g 46 (O.flatMap vtc++T).toArray/\O.length<=cap:=by
     rcases GH xK.out with⟨_,h0,_⟩|h
     ·omega
     ·exact h
    go_upto_region 6 with(refine AI rfl 46 (.tmp 10) (.tmp 18) rfl wr.heap.size x.cells rfl rfl 46 Bi.cells (Blk.new wr _ _) (by rfl) (by kernel_rfl) (fun u hu=>BO x hu) ?_;intro w4 hB4 hg4 xc)
    have xM:Hid (w4.ownsRow w.heap.size 46 22 (.slice (some ⟨g,0,none⟩) O.length cap) O.length (O.flatMap vtc)):=Bb (xK.out.alloc _) hg4 (fun k hk=>by
     injection hk with hk
     subst hk;right;intro e;have:=(xK.out.lt _ e).2;omega)
    have xE:ZN w w4:=(hbw.alloc hbw.size _).grown hg4 (AG hbw.size (by simp)) (ZJ hbw.size);have hw4:w4.heap.size=wr.heap.size+1:=by rw[xc];simp
    obtain⟨z,hz⟩:=ZH wr.heap.size;rw[<-hz]at hB4 hw4 ⊢;have x3:AJ w4 z 0 22=some x.cells:=hB4.row 22 rfl;have x4:w4.cell? ⟨z,1,none⟩=some (.int .i64 x.slot):=hB4.cell 1;have hz4:z<w4.heap.size:=by omega
    have HRv:Hid (∀V,ZN w4 V->AJ V z 0 22=some x.cells):=fun V hV=>(hB4.below hV hz4).row 22 rfl
    clear xc x1 xK hz hw4;have HG4:Hid (Blk w4 g 46 (O.flatMap vtc++T).toArray):=(xm.alloc _).kept hg4 (by intro e;injection e with e;have:=xm.lt;omega);clear hg4 xm;obtain⟨y,hy⟩:∃y,O[0]? =some y:=⟨_,AD yF⟩;have hGy:y.slot=x.slot:=((HO.out.2 y (AM hy)).2.1.2.2).trans HX.out.2.1.2.symm;have x5:w4.cell? ⟨g,1,none⟩=some (.int .i64 x.slot):=by
     have h:=Ek (c:=⟨vtc,T⟩) (m:=22) (fun _=>rfl) HG4.out 0 1 y (.int .i64 y.slot) hy rfl;rw[<-hGy];simpa using h
    have hgz:g<w4.heap.size:=HG4.out.lt;clear hy hGy;clear hB4;have dl:decide (0<(O.length:Int))=true:=by simp;omega
    have dn:(x.slot !=x.slot)=false:=by simp
    have hGz:Hid (w4.cell? ⟨z,1,none⟩=some (.int .i64 x.slot)/\w4.cell? ⟨g,1,none⟩=some (.int .i64 x.slot)):=⟨x4,x5⟩;obtain⟨nO,hnO⟩:=ZI O.length;rw[hnO]at zx dl hO6 yF hOi ⊢;have dl2:decide (0<nO)=true:=by simp;omega
    have HNO:=AA hnO;clear hnO;try go_frame
    go_cut[32] (fun bv wx=>bv= .bool false/\∃k,wx=w4.drewN k)
    case first=>
     refine rgD (fun w'=>w'.cell? ⟨z,1,none⟩=some (.int .i64 x.slot)/\w'.cell? ⟨g,1,none⟩=some (.int .i64 x.slot)) (hGz.out) fun _=>?_
     iterate 14 (refine tkA ?_;go_frame)
     refine dnD ?_;go_wp2_with fail
     go_meet;exact⟨rfl,1,rfl⟩
    case rest=>
     obtain⟨rfl,k,rfl⟩:=hcut;have xx:Hid ((w4.drewN k).ownsRow w.heap.size 46 22 (.slice (some ⟨g,0,none⟩) O.length cap) O.length (O.flatMap vtc)):=xM.out;have xP:ZN w (w4.drewN k):=BL xE k;have xn:ZN w4 (w4.drewN k):=BL (AC _ _) k;have zi:Hid (∀V,Below (w4.drewN k).heap.size (w4.drewN k) V->AJ V z 0 22=some x.cells):=fun V hV=>HRv.out V (xn.trans (hV.mono xn.size))
     have hz5:z<(w4.drewN k).heap.size:=hz4;clear xM xE xn HRv x3 x4;clear HG4 x5 hGz hgz;generalize w4.drewN k=w5 at*;have HAl:Hid (∀V,ZN w5 V->Calls prog 167 #[.int .i64 M,x.val,.slice (some ⟨g,0,none⟩) nO cap] V fun e w'=>∃b,e= .returned (.bool b)/\ZN V w'/\Me M (CH (Aw (xOf M) 10)) x O b):=fun V hV=>
      KX M nO (some ⟨g,0,none⟩) cap O x V HNO.out ((Rd.of_own (HNO.out▸xx.out)).below hV|>.more hV.size) (fun t ht=>⟨(HO.out.2 t ht).2.1.1,(HO.out.2 t ht).2.1.2.1,((HO.out.2 t ht).2.2.1).trans HX.out.2.2.symm,((HO.out.2 t ht).2.1.2.2).trans HX.out.2.1.2.symm,(HO.out.2 t ht).2.2.2⟩) (by omega)
       HX.out.2.1.1 (by rw[HX.out.2.1.2];exact HS.out)
     have x6:AJ w5 z 0 22=some x.cells:=zi.out w5 (AC _ _);have hbx:ZN w5 w5:=AC _ _;go_wp2_with fail
     refine rgD (fun w'=>AJ w' z 0 22=some x.cells) (zi.out _ hbx.drew) fun _=>?_
     iterate 5 (refine tkA ?_;go_frame)
     refine rd1 5 fun K hK=>?_
     go_simp;refine(HAl.out _ hbx.drew).mono ?_;rintro en w6 ⟨r,rfl,hb6,hal⟩;have xy:=hbx.drew.trans (hb6.mono (AB _));have HAL:=AA hal;clear hal;go_wp2_with fail
     refine hK.out _ _ (zi.out _ xy) (fun _=>?_);clear hK K;try go_frame
     refine tkD 41 6 ?_;go_frame;refine dnD ?_;have xY:ZN w w6:=xP.trans (xy.mono xP.size);have yQ:Hid (w6.ownsRow w.heap.size 46 22 (.slice (some ⟨g,0,none⟩) O.length cap) O.length (O.flatMap vtc)):=Ay xx.out xy (AB _);have x7:AJ w6 z 0 22=some x.cells:=zi.out _ xy;clear xx xP HAl zi xy hb6 x6 hbx;cases r with
     |false=>
      go_wp2;go_roundw
      case rel=>exact⟨i+1,O,by go_num,rfl,by rw[HM.out];omega,by rw[HNO.out];omega,(fun sm=>by rw[yi.out sm false HAL.out];rfl),HO.out,(by have h:=yQ.out;rw[HNO.out]at h ⊢;exact h),xY,.inr (by rw[HNO.out];omega)⟩
      case measure=>simp[intOf];omega
     |true=>
      go_wp2_with ((first
       |(refine BS rfl 56 46 (.tmp 43) rfl x.cells rfl underlying56 (by kernel_rfl) (by decide) (by decide) ?_)
       |(at_builtin;refine Ar rfl (.tmp 42) (.tmp 44) _ rfl w.heap.size 46 (.agg Bi.cells) 22 64 underlying56 CG rfl (by decide) (.slice (some ⟨g,0,none⟩) nO cap) nO (O.flatMap vtc) rfl ?r0 (w6.heap.size+1) (some ⟨w6.heap.size,0,none⟩) 1 1 (vtc x) rfl ?r1 ?r2 ?r3 ?r4 ?r5 ?r6 ?_)))
      case r0=>exact(HNO.out▸yQ.out.alloc _)
      case r1=>rfl
      case r2=>exact Rd.mk (by omega) (fun j u hu=>by rw[Nat.zero_add,(Blk.new w6 _ _).cell];simpa using hu)
      case r3=>exact fun u hu=>BO x hu
      case r4=>omega
      case r5=>unfold maxLen;omega
      case r6=>have:=xY.size;simp;omega
      intro v7 w7 xL hg7 xr;have yR:ZN w w7:=BJ (xY.alloc xY.size _) (yQ.out.alloc _) hg7;have xU:=AA xL;clear xL hg7 xr x7 yQ;go_wp2;go_roundw
      case rel=>
       refine⟨i+1,O++[x],by go_num,rfl,by rw[HM.out];omega,by rw[AF,HNO.out];simp;omega,(fun sm=>by rw[yi.out sm true HAL.out];rfl),⟨HO.out.1.snoc (HAL.out.2 (HAL.out.1 rfl)),?_⟩,?_,yR,.inr (by rw[AF];simp)⟩
       ·intro t ht;rcases AP.1 ht with ht|ht
        ·exact HO.out.2 t ht
        ·rw[AU.1 ht];exact⟨HXD.out,⟨HX.out.2.1.1,HAL.out.1 rfl,HX.out.2.1.2⟩,HX.out.2.2,Lz (HAL.out.2 (HAL.out.1 rfl))⟩
       ·have h:=xU.out;rw[AF,Af];simpa[HNO.out]using h
      case measure=>simp[intOf];omega
  ·have di:=ZL (show m<=i by omega)
   clear hDr;go_wp2;rw[Exit.noGoto_ret];go_ret;exact⟨u7,O,rfl,⟨⟨HO.out.1,fun y hy=>⟨(HD.out y (HO.out.2 y hy).1).1,(HO.out.2 y hy).2⟩⟩,fun sm=>(by have h:=HOe.out sm;rw[AT (by rw[HM.out];omega),HDe.out sm.2]at h;exact h)⟩,by omega,BE xK.out yV.size,yV.trans (hbw.mono yV.size)⟩
end
section
open Go.RowKit Go.Shelf
attribute [local go_sem ↓] Go.wp_at_zero Go.wp_at_succ Aj Ao Ap Aq JR
attribute [local go_sem] Ax BB BC BD MQ AK AR AN
def SmO(p:Nm)(l:List Vt):Prop:=(∀v∈l,¬(v.kind=4/\v.choice=2))/\(l.filter fun s=>decide (s.parent=p)).length<=12
def KZ(M:Int)(p:Nm)(s:Nat)(l:List Vt)(L:List Oc):Prop:=
 ∃O:List Vt,S9 M p (s:Int) l O/\(∀o∈L,o.slot=(s:Int)/\NC (xOf M) O o.round o.choice o.value)/\
  (SmO p l->O=Gx M (Nh p (slF s l))/\∀x∈O,x.kind=4->x.choice≠2->kyO s x∈L∨Wj M s O x)
def Ka(M:Int)(p:Nm)(s:Nat)(l:List Vt)(w:World)(e:Ending)(w':World):Prop:=
 ∃(v:Value) (L:List Oc),e= .returned v/\KZ M p s l L/\L.length<=l.length/\w'.ownsRow w.heap.size 142 11 v L.length (L.flatMap occ)/\ZN w w'
theorem Ni(M:Int)(p:Nm)(A:Option Addr)(n c:Nat)(l:List Vt)(s:Nat)(w0:World)(hn:l.length=n)(hr:Rd w0 w0.heap.size A (l.flatMap vtc))(hsm:n<=1000000)(hl:∀v∈l,Ab v)(hs:(xOf M).testBit s=true):Calls prog 79 #[.int .i64 M,p.val,.slice A n c,.int .i64 (s:Int)] w0 (Ka M p s l w0):=by
 obtain⟨w,hw⟩:=ZH (w0.alloc (.cells p.cells 24));have hb0:ZN w0 w:=by rw[hw];exact(AC _ _).alloc (AB _) _
 have hBq:Blk w w0.heap.size 24 p.cells:=by rw[hw];exact Blk.new w0 _ _
 obtain⟨q,hq⟩:=ZH w0.heap.size;have HN:=AA hn;have HR:=AA ((hr.below hb0).more hb0.size);have HL:=AA hl;have HS:=AA hs;have HW:=AA hw;rw[<-hq]at hBq;have HBq:=AA hBq;have hqw:q<w.heap.size:=hBq.lt;have HQ:=AA hq;obtain⟨nq,hnq⟩:=ZH (Aw (xOf M) 10);have hHA:nq<=10:=by rw[hnq];exact Fw _ 10
 have HSz:Hid (∀X W,Calls prog 15 #[.int .i64 X] W fun e w'=>e= .returned (.int .i64 ((Aw (xOf X) 10:Nat):Int))/\w'=W):=fun X W=>Ct X W
 have hHB:Hid (∀W,Calls prog 15 #[.int .i64 M] W fun e w'=>e= .returned (.int .i64 (nq:Int))/\w'=W):=fun W=>by rw[hnq];exact Ct M W
 have HQu:Hid (∀W,Calls prog 115 #[.int .i64 (nq:Int)] W fun e w'=>e= .returned (.int .i64 ((CH nq:Nat):Int))/\w'=W):=fun W=>F4 nq hHA W
 have HNq:=AA hnq;have zP:=AA (fun W W' pb v D h1 h2 h3 h4=>VL W W' pb v D h1 h2 h3 h4);clear hn hr hl hs hw hBq hq hnq;have hmk:∀W:World,(Instr.makeMap 178 none).run prog W= .ok (.map (some W.heap.size)) (W.alloc (.map #[] 0)):=fun W=>rfl
 go_enter func79,ntmps79;go_upto_region 1 with fail
 simp only[<-HW.out,<-HQ.out];go_wp2
 go_loopw [9,20] (fun v iv wr=>YI l s w v iv wr) (fun _ iv _=>n-(intOf iv).toNat)
 case atStart=>exact⟨0,[],rfl,Nat.zero_le _,Nat.zero_le _,by simp[slF],⟨by simp,.inl ⟨rfl,rfl⟩⟩,AC _ _⟩
 case round=>
  obtain⟨i,D,rfl,hin,hDi,hD,xA,hbw⟩:=hrel;rw[HN.out]at hin;have HDe:=AA hD;have HD:Hid (∀x∈D,x∈l/\x.slot=(s:Int)/\x.kind<=4):=fun x hx=>by rw[hD]at hx;have h:=VN hx;exact⟨List.mem_of_mem_take h.1,h.2⟩
  have xK:=AA xA;have hD6:D.length<=1000000:=by omega
  clear hD xA;by_cases hi:i<n
  ·have di:=ZK (show i<n by omega)
   obtain⟨x,hx⟩:∃x,l[i]? =some x:=⟨_,AD (by rw[HN.out];exact hi)⟩;obtain⟨b,o,rfl,hb,xH⟩:=HR.out.cells (by intro e;have:=AY vtc 22 l (Cd l);rw[e,HN.out]at this;simp at this;omega);clear xH;have x1:AJ wr b (o+i*22) 22=some x.cells:=(HR.out.below hbw).voteRow hx;have HXx:=AA hx;clear hx;go_upto_region 5 with(refine AI rfl 46 (.tmp 11) (.tmp 23) rfl wr.heap.size x.cells rfl rfl 46 Bi.cells (Blk.new wr _ _) (by rfl) (by kernel_rfl) (fun u hu=>BO x hu) ?_;intro w4 hB4 hg4 xc)
   have xM:Hid (w4.ownsRow w.heap.size 46 22 u9 D.length (D.flatMap vtc)):=Bb (xK.out.alloc _) hg4 (fun k hk=>by
    injection hk with hk
    subst hk;right;intro e;have:=(xK.out.lt _ e).2;omega)
   have xE:ZN w w4:=(hbw.alloc hbw.size _).grown hg4 (AG hbw.size (by simp)) (ZJ hbw.size);obtain⟨z,hz⟩:=ZH wr.heap.size;rw[<-hz]at hB4 ⊢;have x3:AJ w4 z 0 22=some x.cells:=hB4.row 22 rfl;have x4:w4.cell? ⟨z,1,none⟩=some (.int .i64 x.slot):=hB4.cell 1;have x5:w4.cell? ⟨z,0,none⟩=some (.int .i64 x.kind):=hB4.cell 0;clear hB4 hg4 xc x1 hz xK hbw;try go_frame
   by_cases h1:x.slot=(s:Int)
   ·have e1:(x.slot==(s:Int))=true:=by rw[h1];exact beq_self_eq_true _
    have HSl:=AA h1;clear h1;by_cases h2:x.kind<=4
    ·have e2:decide (x.kind<=4)=true:=by simpa using h2
     have HK:=AA h2;clear h2;go_wp2_with ((first
      |(refine BS rfl 56 46 (.tmp 34) rfl x.cells rfl underlying56 (by kernel_rfl) (by decide) (by decide) ?_)
      |(at_builtin;refine Ar rfl (.tmp 33) (.tmp 35) _ rfl w.heap.size 46 (.agg Bi.cells) 22 64 underlying56 CG rfl (by decide) u9 D.length (D.flatMap vtc) rfl ?r0 (w4.heap.size+1) (some ⟨w4.heap.size,0,none⟩) 1 1 (vtc x) rfl ?r1 ?r2 ?r3 ?r4 ?r5 ?r6 ?_)))
     case r0=>exact xM.out.alloc _
     case r1=>rfl
     case r2=>exact Rd.mk (by omega) (fun j u hu=>by rw[Nat.zero_add,(Blk.new w4 _ _).cell];simpa using hu)
     case r3=>exact fun u hu=>BO x hu
     case r4=>omega
     case r5=>unfold maxLen;omega
     case r6=>have:=xE.size;simp;omega
     intro v7 w7 xL hg7 xr;have yR:ZN w w7:=BJ (xE.alloc xE.size _) (xM.out.alloc _) hg7;have xU:=AA xL;clear xL hg7 xr x3 x4 x5 xM;go_wp2;go_roundw
     case rel=>
      refine⟨i+1,D++[x],by go_num,by rw[HN.out];omega,by rw[AF];simp;omega,?_,?_,yR⟩
      ·rw[VO HXx.out HSl.out HK.out,<-HDe.out]
      ·have h:=xU.out;rw[AF,Af];simpa using h
     case measure=>simp[intOf];omega
    ·have e2:decide (x.kind<=4)=false:=by simpa using h2
     have HK:=AA h2;clear h2;go_wp2;go_roundw
     case rel=>exact⟨i+1,D,by go_num,by rw[HN.out];omega,by omega,(by rw[TH HXx.out HK.out];exact HDe.out),xM.out,xE⟩
     case measure=>simp[intOf];omega
   ·have e1:(x.slot==(s:Int))=false:=by simpa using h1
    have HSl:=AA h1;clear h1;go_wp2;go_roundw
    case rel=>exact⟨i+1,D,by go_num,by rw[HN.out];omega,by omega,(by rw[TI HXx.out HSl.out];exact HDe.out),xM.out,xE⟩
    case measure=>simp[intOf];omega
  ·have di:=ZL (show n<=i by omega)
   have hDn:D.length<=n:=by omega
   obtain⟨m,hm⟩:=ZH wr.heap.size;obtain⟨wm,hwm⟩:=ZH (wr.alloc (.map #[] 0));have hmp:Bp Oc.val wm m []:=by rw[hwm,hm];exact Bp.new Oc.val wr
   have hbm:ZN w wm:=by rw[hwm];exact hbw.alloc hbw.size _
   have hCO:wm.ownsRow w.heap.size 46 22 u9 D.length (D.flatMap vtc):=by rw[hwm];exact xK.out.alloc _
   have hmm:m<wm.heap.size:=hmp.is.lt;obtain⟨A1,c1,hu9,hR1⟩:∃A1 c1,u9= .slice A1 D.length c1/\Rd wm wm.heap.size A1 (D.flatMap vtc):=by
    rcases hCO.2 with⟨rfl,h0⟩|⟨g,cap,cur,rfl,_⟩
    ·exact⟨none,0,by rw[h0],.inl (AV (by rw[hCO.1,h0,Nat.zero_mul]))⟩
    ·exact⟨_,cap,rfl,Rd.of_own hCO⟩
   subst hu9;have yy:D=slF s l:=by
    have h:=HDe.out;rw[AT (by rw[HN.out];omega)]at h;exact h
   have hHC:=KY M p A1 D.length c1 D (s:Int) wm rfl hR1 hD6 (fun v hv=>⟨HL.out v (HD.out v hv).1,(HD.out v hv).2.1⟩) (by simpa using HS.out);have ye:=AA yy;have zj:=AA hHC;have HWm:=AA hwm;have HM:=AA hm;have HMp:=AA hmp;have y1:AJ wm q 0 8=some p.cells:=(HBq.out.below hbm hqw).row 8 rfl;obtain⟨nD,hnD⟩:=ZH D.length;rw[<-hnD]at zj hDn;have HND:=AA hnD;clear hHC hmp hwm hm hCO hR1 xK hD6 hDi yy;rw[<-HND.out];clear hnD;go_upto_region 9 with fail
   simp only[<-HWm.out,<-HM.out];go_wp2_with fail
   refine zj.out.mono ?_;rintro en w3 ⟨v3,O,rfl,⟨hO,hOe⟩,hOn,xD,hb3⟩;have HOe:Hid (SmO p l->O=Gx M (Nh p (slF s l))):=fun sm=>by rw[hOe ⟨fun v hv=>⟨(HD.out v hv).2.2,sm.1 v (HD.out v hv).1⟩,AG (PQ p s l D ye.out) sm.2⟩,ye.out]
   clear hOe;have HO:Hid (S9 M p (s:Int) l O):=⟨hO.1,fun x hx=>⟨(HD.out x (hO.2 x hx).1).1,(hO.2 x hx).2⟩⟩;have hDt:Hid (Bp Oc.val w3 m []):=HMp.out.below hb3 hmm;have xJ:ZN w w3:=hbm.trans (hb3.mono hbm.size);obtain⟨A3,c3,rfl,hR3⟩:∃A1 c1,v3= .slice A1 O.length c1/\(O.flatMap vtc=[]∨∃g,A1=some ⟨g,0,none⟩/\wm.heap.size<=g/\∃T,Blk w3 g 46 (O.flatMap vtc++T).toArray):=by
    rcases GH xD with⟨rfl,h0,h1⟩|⟨g,cap,T,rfl,h1,h2,_⟩
    ·exact⟨none,0,by rw[h0],.inl h1⟩
    ·exact⟨_,cap,rfl,.inr ⟨g,rfl,h1,T,h2⟩⟩
   obtain⟨nO,hnO⟩:=ZH O.length;rw[<-hnO]at hOn ⊢;have HNO:Hid (O.length=nO):=hnO.symm;have HR3:=AA hR3;clear hO xD hR3 hnO zj HMp y1;go_wp2
   go_loopw [44] (fun iv wr=>YJ M s O m w3 iv wr) (fun iv _=>nO-(intOf iv).toNat)
   case atStart=>exact⟨0,[],rfl,Nat.zero_le _,AB _,C3.nil _ _ _,(fun x hx=>by simp at hx),hDt.out,Am w3 m⟩
   case round=>
    obtain⟨i2,kl,rfl,hBW,hkl,hmk,hcp,zh,hgr⟩:=hrel;have HCp:=AA hcp;clear hcp;rw[HNO.out]at hBW;have HMk:=AA hmk;have zE:=AA zh;have HGr:=AA hgr;clear hmk zh hgr;by_cases hi2:i2<nO
    ·have di2:=ZK (show i2<nO by omega)
     obtain⟨x,hx⟩:∃x,O[i2]? =some x:=⟨_,AD (by rw[HNO.out];exact hi2)⟩;obtain⟨g,rfl,hgm,T,hT⟩:∃g,A3=some ⟨g,0,none⟩/\wm.heap.size<=g/\∃T,Blk w3 g 46 (O.flatMap vtc++T).toArray:=by
      rcases HR3.out with h|h
      ·have:=AY vtc 22 O (Cd O);rw[h,HNO.out]at this;simp at this;omega
      ·exact h
     have hTr:Blk wr g 46 (O.flatMap vtc++T).toArray:=hT.kept HGr.out (by intro e;injection e with e;omega);have x1:AJ wr g (i2*22) 22=some x.cells:=B3.vt (T:=T) (w0:=wr) ⟨hTr,Am wr g⟩ hx;have hxO:x∈O:=AM hx;have HXi:=AA hx;have HXO:=AA hxO;have HXv:=AA (HO.out.2 x hxO);have hmw:m<wr.heap.size:=zE.out.is.lt;clear hx hTr hT hxO;go_upto_region 12 with(refine AI rfl 46 (.tmp 14) (.tmp 47) rfl wr.heap.size x.cells rfl rfl 46 Bi.cells (Blk.new wr _ _) (by rfl) (by kernel_rfl) (fun u hu=>BO x hu) ?_;intro w4 hB4 hg4 xc)
     have zR:Hid (w3.grownBy w4 (some m)):=(Bt HGr.out _).andThen hg4 (ZJ (.inl HGr.out.size));have yN:Hid (Bp Oc.val w4 m kl):=(zE.out.alloc _).kept hg4 (by intro e;injection e with e;omega);obtain⟨z,hz⟩:=ZH wr.heap.size;rw[<-hz]at hB4 ⊢;have hzm:z≠m:=by omega
     have hAk:m<w4.heap.size:=yN.out.is.lt;have x4:w4.cell? ⟨z,0,none⟩=some (.int .i64 x.kind):=hB4.cell 0;have x5:w4.cell? ⟨z,3,none⟩=some (.int .i64 x.choice):=hB4.cell 3;have HB4:=AA hB4;clear hg4 xc x1 hz zE HGr hmw hB4;try go_frame
     by_cases h1:x.kind=4
     ·have e1:(x.kind==4)=true:=by rw[h1];rfl
      have HK:=AA h1;clear h1;by_cases h2:x.choice=2
      ·have e2:(x.choice !=2)=false:=by rw[h2];rfl
       have HCC:=AA h2;clear h2;go_wp2;go_roundw
       case rel=>exact⟨i2+1,kl,by go_num,by rw[HNO.out];omega,by omega,HMk.out,(D2.skip HCp.out HXi.out (.inr HCC.out)),yN.out,zR.out⟩
       case measure=>simp[intOf];omega
      ·have e2:(x.choice !=2)=true:=by simpa using h2
       have HC:=AA h2;clear h2;obtain⟨sn,zG,hsn⟩:∃sn:Nat,sn<=9/\x.signer=(sn:Int):=by
        obtain⟨hv,_⟩:=HXv.out.2.1;have h9:=hv.2.1;exact⟨x.signer.toNat,by omega,by omega⟩
       obtain⟨k,hk⟩:∃k:Oc,k=⟨(s:Int),x.round,x.choice,x.value⟩:=⟨_,rfl⟩;have HKk:=AA hk;have HMb:Hid ((xOf M).testBit sn=true):=by
        have h:=HXv.out.2.2.2;rw[hsn]at h;unfold Hid;simpa using h
       have HSn:=AA hsn;have yG:Hid (∀V,Blk V z 46 x.cells->V.cell? ⟨z,2,none⟩=some (.int .i64 x.round)/\V.cell? ⟨z,3,none⟩=some (.int .i64 x.choice)/\AJ V z 14 8=some x.value.cells/\V.cell? ⟨z,4,none⟩=some (.int .i64 (sn:Int))):=fun V hV=>⟨hV.cell 2,hV.cell 3,x.row_value hV,by rw[<-hsn];exact hV.cell 4⟩
       clear hk hsn;go_wp2_with fail
       refine rgD (fun V=>V.cell? ⟨z,2,none⟩=some (.int .i64 x.round)/\V.cell? ⟨z,3,none⟩=some (.int .i64 x.choice)/\AJ V z 14 8=some x.value.cells/\V.cell? ⟨z,4,none⟩=some (.int .i64 (sn:Int))) (yG.out _ HB4.out.drew) fun _=>?_
       iterate 8 (refine tkA ?_;go_frame)
       refine tkV 64 8 ((Oc.mk (s:Int) x.round x.choice x.value).val) (fun wq _=>Nd (s:Int) x.round x.choice x.value (.tmp 57) (.tmp 59) (.tmp 61) (.tmp 63) rfl rfl rfl rfl rfl wq) ?_;go_frame;refine tkD 66 10 ?_;go_frame;refine tkD 67 11 ?_;go_frame;refine tkV 68 12 (.int .i64 ((2^sn:Nat):Int)) (fun wq _=>IZ (.tmp 67) sn rfl rfl zG wq) ?_;go_frame;refine wpAnyH_ready (rs:=[9,14]) (by kernel_rfl) (by simp) ?_;refine AllReadyH.cons rfl (fun K hK=>?_) (AllReadyH.cons rfl (fun K hK=>?_) AllReadyH.nil)
       ·obtain⟨S,hS1,hS2⟩:=HMk.out.look k;have HS1:=AA hS1;have HS2:=AA hS2;have yn:S<1024:=hS2.1;clear hS1 hS2;rw[if_pos (by rfl)];refine CC (.int .i64 (S:Int)) ((L3 (.tmp 56) (.tmp 64) rfl m k rfl (by rw[HKk.out];rfl) (w:=w4.drew) (yN.out.below (AC w4.heap.size w4).drew hAk)).trans (by rw[HS1.out])) ?_;refine hK.out _ _ (yG.out _ HB4.out.drew) (fun _=>?_);clear hK K;try go_frame
        refine tkV 69 13 (.int .i64 ((S|||2^sn:Nat):Int)) (fun wq _=>Ia (.tmp 65) (.tmp 68) S sn rfl rfl rfl yn zG wq) ?_;go_frame;refine rd1 14 fun K hK=>?_
        rw[if_pos (by rfl)];refine QX (.tmp 56) (.tmp 64) rfl m k rfl (by rw[HKk.out];rfl) (w:=w4.drew) (yN.out.below (AC w4.heap.size w4).drew hAk) ?_;intro w5 b5 v5 kl5 hE5 hA5 hU5 hl5 hg5 hs5;have HA5:=AA hA5;clear hA5;have HB5:Hid (Blk w5 z 46 x.cells):=(HB4.out.drew).kept hg5 (by intro e;injection e with e;exact hzm e);have HE5:=AA hE5;have hDu:Hid (C3 M (s:Int) O kl5):=C3.upd (S:=0) HMk.out hU5 (by rw[HKk.out]) (by rw[HKk.out];exact HC.out) (Da.zero M O k);clear hE5 hU5;refine hK.out _ _ (yG.out _ HB5.out) (fun _=>?_);clear hK K;try go_frame
        refine tkD 71 15 ?_;go_frame;refine rd1 16 fun K hK=>?_
        rw[if_pos (by rfl)];refine QY (.tmp 56) (.tmp 71) (.tmp 69) rfl m b5 k (.int .i64 ((S|||2^sn:Nat):Int)) rfl rfl rfl (w:=w5) HE5.out ?_;intro w6 kl6 hK6 hM6 hU6 hl6 hg6 hs6;have HK6:=AA hK6;clear hK6;have HB6:Hid (Blk w6 z 46 x.cells):=HB5.out.kept hg6 (by intro e;injection e with e;exact hzm e);have HM6:=AA hM6;clear hM6;refine hK.out _ _ (yG.out _ HB6.out) (fun _=>?_);clear hK K;try go_frame
        refine dnD ?_;have hBb:w3.grownBy w6 (some m):=((Bd zR.out).trans hg5).trans hg6;have hE7:Hid (C3 M (s:Int) O kl6):=hDu.out.upd hU6 (by rw[HKk.out]) (by rw[HKk.out];exact HC.out) (HS2.out.or zG HMb.out ⟨x,HXO.out,HSn.out,HK.out,by rw[HKk.out],by rw[HKk.out],by rw[HKk.out]⟩);have hCz:kl6.length<=i2+1:=by omega
        have hE8:Hid (D2 s (O.take (i2+1)) kl6):=D2.step HKk.out HCp.out HXi.out HSn.out HK6.out HA5.out HS1.out;clear hU6;go_wp2_with fail
        go_roundw
        case rel=>exact⟨i2+1,kl6,by go_num,by rw[HNO.out];omega,hCz,hE7.out,hE8.out,HM6.out,hBb⟩
        case measure=>simp[intOf];omega
       ·rw[if_pos (by rfl)];refine QX (.tmp 56) (.tmp 64) rfl m k rfl (by rw[HKk.out];rfl) (w:=w4.drew) (yN.out.below (AC w4.heap.size w4).drew hAk) ?_;intro w5 b5 v5 kl5 hE5 hA5 hU5 hl5 hg5 hs5;have HA5:=AA hA5;clear hA5;have HB5:Hid (Blk w5 z 46 x.cells):=(HB4.out.drew).kept hg5 (by intro e;injection e with e;exact hzm e);have HE5:=AA hE5;have hDu:Hid (C3 M (s:Int) O kl5):=C3.upd (S:=0) HMk.out hU5 (by rw[HKk.out]) (by rw[HKk.out];exact HC.out) (Da.zero M O k);clear hE5 hU5;refine hK.out _ _ (yG.out _ HB5.out) (fun _=>?_);clear hK K;try go_frame
        obtain⟨S,hS1,hS2⟩:=hDu.out.look k;have HS1:=AA hS1;have HS2:=AA hS2;have yn:S<1024:=hS2.1;clear hS1 hS2;refine tkD 71 15 ?_;go_frame;refine rd1 9 fun K hK=>?_
        rw[if_pos (by rfl)];refine CC (.int .i64 (S:Int)) ((L3 (.tmp 56) (.tmp 64) rfl m k rfl (by rw[HKk.out];rfl) (w:=w5) HE5.out.isB).trans (by rw[HS1.out])) ?_;refine hK.out _ _ (yG.out _ HB5.out) (fun _=>?_);clear hK K;try go_frame
        refine tkV 69 13 (.int .i64 ((S|||2^sn:Nat):Int)) (fun wq _=>Ia (.tmp 65) (.tmp 68) S sn rfl rfl rfl yn zG wq) ?_;go_frame;refine rd1 16 fun K hK=>?_
        rw[if_pos (by rfl)];refine QY (.tmp 56) (.tmp 71) (.tmp 69) rfl m b5 k (.int .i64 ((S|||2^sn:Nat):Int)) rfl rfl rfl (w:=w5) HE5.out ?_;intro w6 kl6 hK6 hM6 hU6 hl6 hg6 hs6;have HK6:=AA hK6;clear hK6;have HB6:Hid (Blk w6 z 46 x.cells):=HB5.out.kept hg6 (by intro e;injection e with e;exact hzm e);have HM6:=AA hM6;clear hM6;refine hK.out _ _ (yG.out _ HB6.out) (fun _=>?_);clear hK K;try go_frame
        refine dnD ?_;have hBb:w3.grownBy w6 (some m):=((Bd zR.out).trans hg5).trans hg6;have hE7:Hid (C3 M (s:Int) O kl6):=hDu.out.upd hU6 (by rw[HKk.out]) (by rw[HKk.out];exact HC.out) (HS2.out.or zG HMb.out ⟨x,HXO.out,HSn.out,HK.out,by rw[HKk.out],by rw[HKk.out],by rw[HKk.out]⟩);have hCz:kl6.length<=i2+1:=by omega
        have hE8:Hid (D2 s (O.take (i2+1)) kl6):=D2.step HKk.out HCp.out HXi.out HSn.out HK6.out HA5.out (by have h:=HS1.out;rw[HA5.out k,if_pos rfl,Option.getD_some]at h;exact h);clear hU6;go_wp2_with fail
        go_roundw
        case rel=>exact⟨i2+1,kl6,by go_num,by rw[HNO.out];omega,hCz,hE7.out,hE8.out,HM6.out,hBb⟩
        case measure=>simp[intOf];omega
     ·have e1:(x.kind==4)=false:=by simpa using h1
      have HKK:=AA h1;clear h1;go_wp2;go_roundw
      case rel=>exact⟨i2+1,kl,by go_num,by rw[HNO.out];omega,by omega,HMk.out,(D2.skip HCp.out HXi.out (.inl HKK.out)),yN.out,zR.out⟩
      case measure=>simp[intOf];omega
    ·have di2:=ZL (show nO<=i2 by omega)
     obtain⟨wb,hwb⟩:=ZH wr;subst hwb;have hkl6:kl.length<=n:=by omega
     have HCpA:Hid (D2 s O kl):=by
      have h:=HCp.out;rw[AT (by rw[HNO.out];omega)]at h;exact h
     clear HCp;have xP:ZN w wb:=xJ.grown HGr.out xJ.size (fun k hk=>by injection hk with hk;subst hk;rw[HM.out];exact hbw.size);obtain⟨pb,hpb⟩:=ZH wb.heap.size;obtain⟨w5,hw5⟩:=ZH (wb.alloc (.cells #[.slice none 0 0] 103));have hBp:Blk w5 pb 103 #[.slice none 0 0]:=by rw[hw5,hpb];exact Blk.new wb _ _
     have hAy:Bp Oc.val w5 m kl:=by rw[hw5];exact zE.out.alloc _
     have yX:ZN wb w5:=by rw[hw5];exact(AC _ _).alloc (AB _) _
     have hmw:m<wb.heap.size:=zE.out.is.lt;have HW5:=AA hw5;have HPb:=AA hpb;have hpw:wb.heap.size<=pb:=by omega
     clear hw5 hpb HR3 hDt;go_upto_region 16 with fail
     simp only[<-HW5.out,<-HPb.out];obtain⟨r,hr⟩:=ZH w5.heap.size;go_wp2_with (at_range;refine Df _ rfl _ 178 rfl _ _ underlying178 m kl rfl hAy (Ib M []) ?_;intro o6 QF zk)
     have hAz:Blk (w5.alloc o6) pb 103 #[.slice none 0 0]:=hBp.alloc _;have xY:ZN wb (w5.alloc o6):=yX.alloc yX.size _;rw[<-hr]at zk ⊢;have hrw:wb.heap.size<=r:=by rw[hr];exact yX.size
     have hrp:r≠pb:=by have:=hBp.lt;omega
     have hmr:m≠r:=by omega
     have hC0:m≠pb:=by omega
     generalize w5.alloc o6=w6 at*;have zl:=AA zk;have hA7:=AA hAz;clear zk hAz hr hBp hAy yX HW5;go_frame
     go_loopw [17] (fun _ wx=>YK M s O m r pb kl wb wx) (fun _ wx=>KN m r wx)
     case atStart=>exact⟨QF,_,[],zl.out,hA7.out,by have:=zl.out.rng.le;simpa using this,fun o ho=>(List.not_mem_nil ho).elim,⟨by simp,.inl ⟨rfl,rfl⟩⟩,xY⟩
     case round=>
      obtain⟨cnt,v,L,hrg,hBp,hLc,hL,xA,hbx⟩:=hrel;have HRg:=AA hrg;have HBp:=AA hBp;have HL3:=AA hL;have xK:=AA xA;have y1:wr.cell? ⟨pb,0,none⟩=some v:=hBp.cell 0;have hL6:L.length<=1000000:=by omega
      have hrx:r<wr.heap.size:=hrg.rng.lt;have hpx:pb<wr.heap.size:=hBp.lt;have hmx:m<wr.heap.size:=hrg.rng.mlt;clear hrg hBp hL xA zl hA7;go_wp2_with (at_next;refine Dx _ rfl _ rfl m r cnt kl _ rfl HRg.out ?_ ?_)
      ·intro hA8;have hC1:=AA hA8;clear hA8;have yW:=AA (zP.out wb wr pb v L xK.out hbx HBp.out hL6);clear zP;go_wp2_with fail
       refine yW.out.mono ?_;rintro en w8 ⟨rfl,hB8,hb8,l8,hp8,xf⟩;have z1:w8.cell? ⟨pb,0,none⟩=some v:=hB8.cell 0;have HP8:=AA hp8;have zX:=AA xf;have hll:L.length<=l.length:=by rw[HN.out];omega
       clear hB8 hp8 xf yW y1;go_wp2;go_ret;have hbb:ZN w0 wb:=hb0.trans (xP.mono hb0.size);exact⟨v,l8,rfl,⟨O,HO.out,(fun o ho=>HL3.out o (HP8.out.mem_iff.1 ho)),fun sm=>⟨HOe.out sm,(fun x hx h4 h2=>(D2.fin HCpA.out (fun pp hpp=>hC1.out pp.1 pp.2 hpp) x hx h4 h2).imp (fun h=>HP8.out.mem_iff.2 h) id)⟩⟩,by rw[HP8.out.length_eq];exact hll,BE zX.out hbb.size,hbb.trans (hb8.mono hbb.size)⟩
      ·intro k v1 w1 Fv yZ zZ hBA hg1 hs1 hen;obtain⟨j1,j2,S,hv1,j3⟩:=HMk.out (k,v1) yZ;clear j1 j2 j3;simp only at hv1;subst hv1;have hBd:=AA yZ;have hb1:ZN wb w1:=hbx.grown hg1 hbx.size (ZJ hrw);have zy:Hid (Blk w1 pb 103 #[v]):=HBp.out.kept hg1 (by intro e;injection e with e;exact hrp e.symm);have hnr:v.ownBlock≠some r:=fun e=>(HRg.out.rng.ne_row xK.out).2 e.symm
       have HOwn1E:Hid (w1.ownsRow wb.heap.size 142 11 v L.length (L.flatMap occ)):=Bb xK.out hg1 (ZJ (.inr hnr));have hC4:=AA zZ;have hr1:r<w1.heap.size:=zZ.rng.lt;have hm1:m<w1.heap.size:=zZ.rng.mlt;have hp1:pb<w1.heap.size:=zy.out.lt;clear yZ zZ hg1 y1 hnr;clear hs1;go_upto_region 19 with fail
       obtain⟨w4,hw4⟩:=ZH (w1.alloc (.cells k.cells 142));rw[<-hw4];have zH:Hid (DK Oc.val w4 m r kl Fv (fun p=>Ib M L p∨p=(k,.int .i64 (S:Int)))):=by unfold Hid;rw[hw4];exact hC4.out.alloc _
       have yd:Hid (Blk w4 pb 103 #[v]):=by unfold Hid;rw[hw4];exact zy.out.alloc _
       have xM:Hid (w4.ownsRow wb.heap.size 142 11 v L.length (L.flatMap occ)):=by unfold Hid;rw[hw4];exact HOwn1E.out.alloc _
       have hb4:ZN wb w4:=by rw[hw4];exact hb1.alloc hb1.size _
       have hB4:Blk w4 w1.heap.size 142 k.cells:=by rw[hw4];exact Blk.new w1 _ _
       clear hw4;obtain⟨z,hz⟩:=ZH w1.heap.size;rw[<-hz]at hB4 ⊢;have x3:AJ w4 z 0 11=some k.cells:=hB4.row 11 rfl;have y4:w4.cell? ⟨pb,0,none⟩=some v:=yd.out.cell 0;clear hB4 hz hen zy HOwn1E hb1;obtain⟨a,ha⟩:=ZH (Aw (xOf (S:Int)) 10);have hC5:Hid (∀W,Calls prog 15 #[.int .i64 (S:Int)] W fun e w'=>e= .returned (.int .i64 (a:Int))/\w'=W):=fun W=>by rw[ha];exact HSz.out _ W
       have HA:=AA ha;obtain⟨qn,hqn⟩:=ZH (CH nq);have HQn:=AA hqn;have hHD:Hid (∀W,Calls prog 115 #[.int .i64 (nq:Int)] W fun e w'=>e= .returned (.int .i64 (qn:Int))/\w'=W):=fun W=>by rw[hqn];exact HQu.out W
       clear ha hqn;try go_frame
       by_cases hq:qn<=a
       ·have dq:decide ((qn:Int)<=(a:Int))=true:=by simp;omega
        go_wp2_with fail
        refine(hC5.out _).mono ?_;rintro en w5' ⟨rfl,xp⟩;replace xp:=xp.symm;subst xp;go_wp2_with fail
        refine(hHB.out _).mono ?_;rintro en w5' ⟨rfl,xp⟩;replace xp:=xp.symm;subst xp;go_wp2_with fail
        refine(hHD.out _).mono ?_;rintro en w5' ⟨rfl,xp⟩;replace xp:=xp.symm;subst xp;have hq':CH (Aw (xOf M) 10)<=Aw (xOf (S:Int)) 10:=by rw[<-HNq.out,<-HQn.out,<-HA.out];exact hq
        have HOk:=AA (HMk.out.out hBd.out hq');clear hq';go_wp2_with ((first
         |(refine BS rfl 103 142 (.tmp 87) rfl k.cells rfl underlying103 (by kernel_rfl) (by decide) (by decide) ?_)
         |(at_builtin;refine Ar rfl (.tmp 86) (.tmp 88) _ rfl wb.heap.size 142 (.agg Oc.zero.cells) 11 32 underlying103 RH rfl (by decide) v L.length (L.flatMap occ) rfl ?r0 (w4.heap.size+1) (some ⟨w4.heap.size,0,none⟩) 1 1 (occ k) rfl ?r1 ?r2 ?r3 ?r4 ?r5 ?r6 ?_)))
        case r0=>exact xM.out.alloc _
        case r1=>rfl
        case r2=>exact Rd.mk (by omega) (fun j u hu=>by rw[Nat.zero_add,(Blk.new w4 _ _).cell];simpa using hu)
        case r3=>exact fun u hu=>NA k hu
        case r4=>omega
        case r5=>unfold maxLen;omega
        case r6=>have:=hb4.size;simp;omega
        intro v7 w7 xL hg7 xr;have hBC:some pb≠v.ownBlock:=CJ xM.out yd.out (by decide);have hnn:=zH.out.rng.ne_row xM.out;have zI:Hid (Blk w7 pb 103 #[v]):=(yd.out.alloc _).kept hg7 hBC;have hC6:Hid (DK Oc.val w7 m r kl Fv (fun p=>Ib M L p∨p=(k,.int .i64 (S:Int)))):=(zH.out.alloc _).kept hg7 hnn.1 hnn.2;have hb7:ZN wb w7:=BJ (hb4.alloc hb4.size _) (xM.out.alloc _) hg7;have hBD:some pb≠v7.ownBlock:=CJ xL zI.out (by decide);obtain⟨g7,cap7,rfl⟩:=ownsRow_succ xL;have xU:=AA xL;have HNe:=AA hBD;have y6:w7.cell? ⟨pb,0,none⟩=some v:=zI.out.cell 0;have y7:w7.frozen? ⟨pb,0,none⟩=false:=zI.out.frozen 0;clear xL hg7 xr hBC hnn hBD y4 x3;go_wp2;try go_frame
        have hBE:Hid (DK Oc.val (w7.setCell ⟨pb,0,none⟩ (.slice (some ⟨g7,0,none⟩) (L.length+1) cap7)) m r kl Fv (Ib M (L++[k]))):=(hC6.out.kept (Bl (p:=⟨pb,0,none⟩) (Am w7 pb) rfl _) (by intro e;injection e with e;exact hC0 e) (by intro e;injection e with e;exact hrp e)).mono (fun p hp=>Ib.snoc hp);go_roundw
        case rel=>
         refine⟨Fv,_,L++[k],hBE.out,zI.out.put 0 _,by rw[AF];simp;omega,?_,?_,hb7.setCell hpw _⟩
         ·intro t ht;rcases AP.1 ht with ht|ht
          ·exact HL3.out t ht
          ·rw[AU.1 ht];exact HOk.out
         ·have h:=Bb xU.out (Bl (p:=⟨pb,0,none⟩) (Am w7 pb) rfl (.slice (some ⟨g7,0,none⟩) (L.length+1) cap7)) (ZJ (.inr (fun e=>HNe.out e.symm)));rw[AF,Af];simpa using h
        case measure=>rw[hBE.out.rng.left_eq,HRg.out.rng.left_eq];exact hBA
       ·have dq:decide ((qn:Int)<=(a:Int))=false:=by simp;omega
        go_wp2_with fail
        refine(hC5.out _).mono ?_;rintro en w5' ⟨rfl,xp⟩;replace xp:=xp.symm;subst xp;go_wp2_with fail
        refine(hHB.out _).mono ?_;rintro en w5' ⟨rfl,xp⟩;replace xp:=xp.symm;subst xp;go_wp2_with fail
        refine(hHD.out _).mono ?_;rintro en w5' ⟨rfl,xp⟩;replace xp:=xp.symm;subst xp;go_wp2;go_roundw
        case rel=>exact⟨Fv,v,L,zH.out.mono (fun p hp=>Ib.fail (by rw[<-HNq.out,<-HQn.out,<-HA.out];omega) hp),yd.out,by omega,HL3.out,xM.out,hb4⟩
        case measure=>rw[zH.out.rng.left_eq,HRg.out.rng.left_eq];exact hBA
end
end Go.Proofs.YtadllffeoibelaaGreat
