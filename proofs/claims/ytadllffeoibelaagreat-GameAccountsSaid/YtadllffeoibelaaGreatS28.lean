/-
  Parts of the proof. No condition.
-/
import Derived.Test.YtadllffeoibelaaGreatS27
open Go.Proofs.Tryz
namespace Go.Proofs.YtadllffeoibelaaGreat
set_option maxRecDepth 100000
set_option maxHeartbeats 32000000
set_option linter.all false
section
open Go.RowKit
attribute [local go_sem ↓] Go.wp_at_zero Go.wp_at_succ Aj Ao Ap Aq
attribute [local go_sem] Ax BB BC BD AK AR AN
def MK(w:World)(r:Int×Int)(e:Ending)(w':World):Prop:=e= .returned (.tuple #[.int .i64 r.1,.int .i64 r.2])/\ZN w w'
def Kv:Value->Nat
 |.slice _ n _=>n
 |_=>0
def UI(keys:List Nm)(w:World)(r:Int×Int)(g v bf:Value)(wr:World):Prop:=
 ∃(k:Nat) (l:List UInt8) (before:Int) (m:Nat) (A:Option Addr) (n c:Nat),v= .slice A n c/\g= .int .i64 (m:Int)/\bf= .int .i64 before/\l.length=n/\n=k*786/\k<=10/\n<=c/\c<=maxLen/\m<1024/\
  Rd w w.heap.size A (l.map B)/\FB keys k l before m=r/\ZN w wr
theorem Rd.cut786{w:World}{B':Nat}{A:Option Addr}{l:List UInt8}(h:Rd w B' A (l.map B)):Rd w B' (Option.map (fun x=>{block:=x.block,off:=x.off+786}) A) ((l.drop 786).map B):=by
 rcases h with h|⟨b,o,rfl,hb,hc⟩
 ·rw[List.map_eq_nil_iff]at h;subst h;exact .inl (by simp)
 ·refine .inr ⟨b,o+786,rfl,hb,fun j u hu=>?_⟩;rw[Nat.add_assoc];exact hc _ u (by rw[List.map_drop,List.getElem?_drop]at hu;exact hu)
theorem Pp(K A:Option Addr)(nk ck n c:Nat)(keys:List Nm)(p:List UInt8)(r:Int×Int)(w:World)(hnk:keys.length=nk)(hn:p.length=n)(hK:Rd w w.heap.size K (keys.flatMap nmc))(hr:Rd w w.heap.size A (p.map B))(hc:n<=c)(hm:c<=maxLen)(xt:My keys p=r):Calls prog 36 #[.slice K nk ck,.slice A n c] w (MK w r):=by
 have HNK:=AA hnk;clear hnk;have HN:=AA hn;clear hn;have HK:=AA hK;clear hK;have HR:=AA hr;clear hr;have yc:=AA xt;clear xt;unfold maxLen at hm;go_enter func36,ntmps36;go_wp2;refine wp_scope_jumps 0 (Xh (MK w r)) (fun _ _=>0) rfl ?_ ?_
 ·rcases p with _|⟨x,rl⟩
  ·obtain rfl:n=0:=HN.out.symm;have E:Hid (r=(0,2)):=yc.out.symm;go_wp2;go_step3;exact⟨rfl,2,⟨by rw[E.out],AC _ _⟩,_,_,_,_,_,_,_,_,_,_,_,_,_,_,_,_,_,_,_,_,_,_,_,_,_,_,_,_,_,_,_,_,_,_,_,_,_,_,_,_,_,_,_,_,_,_,_,_,_,_,_,_,_,_,_,_,_,_,_,_,_,_,_,_,_,_,_,_,_,_,rfl⟩
  ·have h1:rl.length+1=n:=HN.out;obtain⟨b,o,rfl,hb,xH⟩:=HR.out.cells (by simp);have c0:w.cell? ⟨b,o,none⟩=some (B x):=xH 0 _ rfl;have hrl:Rd w w.heap.size (some ⟨b,o+1,none⟩) (rl.map B):=Rd.mk hb fun j u hu=>by
    rw[show o+1+j=o+(j+1)from by omega];exact xH _ u (by simpa using hu)
   have HRL:=AA hrl;clear hrl xH;have hx:=x.toNat_lt;have en:((n:Int)==0)=false:=by rw[beq_eq_false_iff_ne];omega
   have i1:(1:Int)<=(n:Int):=by omega
   have xt:(if x.toNat=0∨10<x.toNat then(0,4)else if rl.length<x.toNat*786 then(0,2)else if x.toNat*786<rl.length then(0,3)else FB keys x.toNat rl (-1) 0)=r:=yc.out;clear yc HR HN;by_cases g0:x.toNat=0
   ·have e0:((x.toNat:Int)==0)=true:=by rw[g0];rfl
    rw[if_pos (.inl g0)]at xt;have E:=AA xt.symm;clear xt g0 h1;by_cases hc1:c=1
    all_goals
     go_wp2;go_step3;exact⟨rfl,4,⟨by rw[E.out],AC _ _⟩,_,_,_,_,_,_,_,_,_,_,_,_,_,_,_,_,_,_,_,_,_,_,_,_,_,_,_,_,_,_,_,_,_,_,_,_,_,_,_,_,_,_,_,_,_,_,_,_,_,_,_,_,_,_,_,_,_,_,_,_,_,_,_,_,_,_,_,_,_,_,rfl⟩
   ·have e0:((x.toNat:Int)==0)=false:=by rw[beq_eq_false_iff_ne];omega
    by_cases g1:10<x.toNat
    ·have e1:decide ((10:Int)<(x.toNat:Int))=true:=by simp;omega
     rw[if_pos (.inr g1)]at xt;have E:=AA xt.symm;clear xt g0 h1;by_cases hc1:c=1
     all_goals
      go_wp2;go_step3;exact⟨rfl,4,⟨by rw[E.out],AC _ _⟩,_,_,_,_,_,_,_,_,_,_,_,_,_,_,_,_,_,_,_,_,_,_,_,_,_,_,_,_,_,_,_,_,_,_,_,_,_,_,_,_,_,_,_,_,_,_,_,_,_,_,_,_,_,_,_,_,_,_,_,_,_,_,_,_,_,_,_,_,_,_,rfl⟩
    ·have e1:decide ((10:Int)<(x.toNat:Int))=false:=by simp;omega
     rw[if_neg (by omega)]at xt;by_cases g2:rl.length<x.toNat*786
     ·rw[if_pos g2]at xt;have E:=AA xt.symm;have g2':n-1<x.toNat*786:=by omega
      clear xt g2 h1;by_cases hc1:c=1
      all_goals
       go_wp2;go_step3;exact⟨rfl,2,⟨by rw[E.out],AC _ _⟩,_,_,_,_,_,_,_,_,_,_,_,_,_,_,_,_,_,_,_,_,_,_,_,_,_,_,_,_,_,_,_,_,_,_,_,_,_,_,_,_,_,_,_,_,_,_,_,_,_,_,_,_,_,_,_,_,_,_,_,_,_,_,_,_,_,_,_,_,_,_,rfl⟩
     ·rw[if_neg g2]at xt;have hc1:¬c=1:=by omega
      by_cases g3:x.toNat*786<rl.length
      ·rw[if_pos g3]at xt;have E:=AA xt.symm;have g3':x.toNat*786<n-1:=by omega
       clear xt g2 g3 h1;go_wp2;go_step3;exact⟨rfl,3,⟨by rw[E.out],AC _ _⟩,_,_,_,_,_,_,_,_,_,_,_,_,_,_,_,_,_,_,_,_,_,_,_,_,_,_,_,_,_,_,_,_,_,_,_,_,_,_,_,_,_,_,_,_,_,_,_,_,_,_,_,_,_,_,_,_,_,_,_,_,_,_,_,_,_,_,_,_,_,_,rfl⟩
      ·rw[if_neg g3]at xt;have g2':x.toNat*786<=n-1:=by omega
       have g3':n-1<=x.toNat*786:=by omega
       have yc:=AA xt;have H1:=AA h1;clear xt g2 g3 h1;go_wp2
       go_loopw [6,7,8] (fun g v bf wr=>UI keys w r g v bf wr) (fun _ v _ _=>Kv v)
       case atStart=>exact⟨x.toNat,rl,-1,0,_,_,_,rfl,rfl,rfl,by have:=H1.out;omega,by omega,by omega,by omega,by unfold maxLen;omega,by omega,HRL.out,yc.out,AC _ _⟩
       case round=>
        clear en i1 hx e0 e1 g0 g1 g2' g3' hc1 hc hm c0 HRL yc H1 hb;obtain⟨k,l,before,m,A,n,c,rfl,rfl,rfl,hl,hnk,hCp,hc,hm,yo,hR,xt,hbw⟩:=hrel;have HL:=AA hl;clear hl;have HR:=AA hR;clear hR;unfold maxLen at hm;cases k with
        |zero=>
         obtain rfl:n=0:=by omega
         have E:Hid (r=((m:Int),0)):=xt.symm;clear xt hnk;go_wp2;go_ret2;exact⟨by rw[E.out];rfl,hbw⟩
        |succ k=>
         have hn:786<=n:=by omega
         have hHt:=AA hnk;clear hnk;have i1:(786:Int)<=(n:Int):=by omega
         have i2:(786:Int)<=(c:Int):=by omega
         have i3:(0:Int)<(n:Int):=by omega
         have HD:=AA xt;clear xt;have hrt:Rd w w.heap.size A ((l.take 786).map B):=by rw[List.map_take];exact HR.out.take 786
         have hlt:(l.take 786).length=786:=by have:=HL.out;simp;omega
         by_cases h1:(CF l).2=0/\(DG l).2=0
         ·have zV:=fun W (hW:ZN w W)=>OO A c (l.take 786) W ((hrt.below hW).more hW.size) hlt (by omega) (by unfold maxLen;omega) (by rw[IB];exact h1.1) (by rw[IC];exact h1.2)
          rw[IB,IC,SB,SC]at zV;have hCl:=AA zV;clear zV hrt hlt;have hsa:=UG l (by have:=HL.out;omega);have hsb:=UH l (by have:=HL.out;omega);have hHu:(CF l).1.ok:=Ku _;have hHv:(DG l).1.ok:=Ku _;have hel:G8 keys l before=Du keys (CF l).1 (IA l) (DG l).1 (Il l) before:=by unfold G8;rw[if_neg (by simpa using h1.1),if_neg (by simpa using h1.2)]
          have hck:(if Du keys (CF l).1 (IA l) (DG l).1 (Il l) before=0 then FB keys k (l.drop 786) (CF l).1.signer (m|||2^(CF l).1.signer.toNat)else(0,Du keys (CF l).1 (IA l) (DG l).1 (Il l) before))=r:=by rw[<-hel];exact HD.out
          have hfz:=fun(h:Du keys (CF l).1 (IA l) (DG l).1 (Il l) before=0)=>ON h
          have HCk:=AA hck;have Hfz:=AA hfz;have HSA:=AA hsa;have HSB:=AA hsb;have HOA:=AA hHu;have HOB:=AA hHv;clear hck hfz hel HD h1 hsa hsb hHu hHv;generalize (CF l).1=va at*;generalize (DG l).1=vb at*;generalize IA l=sa at*;generalize Il l=sb at*;go_wp2_with fail
          refine(hCl.out _ hbw).mono ?_;rintro en w2 ⟨A2,c2,A3,c3,rfl,hn2,hn3,hr2,hc2,hm2,hr3,hc3,hm3,hb2⟩;obtain⟨E,hE⟩:∃E:Ev,E=⟨⟨va,sa,A2,c2⟩,⟨vb,sb,A3,c3⟩⟩:=⟨_,rfl⟩;have hHw:GO w2 w2.heap.size E:=by rw[hE];exact⟨⟨HOA.out,hr2,by rw[HSA.out];omega⟩,⟨HOB.out,hr3,by rw[HSB.out];omega⟩⟩
          have hHx:GA E.a:=by rw[hE];exact⟨hc2,hm2⟩
          have hHy:GA E.b:=by rw[hE];exact⟨hc3,hm3⟩
          have hfd:Du keys E.a.vote E.a.sig E.b.vote E.b.sig before=Du keys va sa vb sb before:=by rw[hE]
          have hsg:E.a.vote.signer=va.signer:=by rw[hE]
          rw[<-hE];have xB:=hbw.trans (hb2.mono hbw.size);clear hE hn2 hn3 hr2 hc2 hm2 hr3 hc3 hm3 hb2 hbw;have HEok:=AA hHw;have HEca:=AA hHx;have HEcb:=AA hHy;clear hHw hHx hHy;obtain⟨f,hf⟩:=ZH (Du keys va sa vb sb before);rw[<-hf]at hfd;rw[<-hf]at HCk;rw[<-hf]at Hfz;clear hf;have HF:Hid (∀W,ZN w2 W->Calls prog 70 #[.slice K nk ck,E.val,.int .i64 before] W (EL W f)):=fun W hW=>by
           have h:=SA K ck keys E before W ((HK.out.below (xB.trans (hW.mono xB.size))).more (xB.trans (hW.mono xB.size)).size) ((HEok.out.below hW).more hW.size) HEca.out HEcb.out;rw[hfd,HNK.out]at h;exact h
          clear hfd;go_wp2_with (refine AI rfl 125 (.tmp 11) (.tmp 48) rfl w2.heap.size E.cells rfl rfl 125 B7 (Blk.new w2 _ _) (by rw[Ev.size_cells];rfl) (by rw[Ev.size_cells];exact De) (fun u hu=>JQ E hu) ?_)
          intro w3 hV3 hg3 hs3;have hDb:ZN w2 w3:=((AC _ _).alloc (AB _) _).grown hg3 (by simp) (by rintro j ⟨⟩;omega);have xJ:=xB.trans (hDb.mono xB.size);have hl3:=hV3.lt;clear hg3 hs3;have x3:=hV3.row 46 (Ev.size_cells _);have HF3:=AA (HF.out w3 hDb);clear HF;by_cases hf0:f=0
          ·have hzz:=Hfz.out hf0;obtain⟨sn,hsn⟩:=Int.eq_ofNat_of_zero_le hzz.1.2.2.1.bounds.2.2.2.2.1.1;have hs9:sn<=9:=by have:=hzz.1.2.2.1.bounds.2.2.2.2.1.2;omega
           have hck:=HCk.out;rw[if_pos hf0,hsn]at hck;have HC2:Hid (FB keys k (l.drop 786) (sn:Int) (m|||2^sn)=r):=hck;clear hck hzz;subst hf0;rw[hsn]at hsg;have HSg:=AA hsg;clear hsg hsn;by_cases hcc:c=786
           ·subst hcc;obtain rfl:n=786:=by omega
            go_wp2_with fail
            refine HF3.out.mono ?_;rintro en w4 ⟨rfl,hb4⟩;have hV4:=hV3.below hb4 hV3.lt;have xE:=xJ.trans (hb4.mono xJ.size);have s4:w4.cell? ⟨w2.heap.size,4,none⟩=some (.int .i64 (sn:Int)):=by rw[<-HSg.out];exact(hV4.cell 4).trans E.cell_signer
            have hsh:=RI sn hs9;clear x3 hV3 xJ hb4;go_wp2;refine⟨⟨k,l.drop 786,sn,m|||2^sn,_,_,_,rfl,QE m sn yo hs9,rfl,by have:=HL.out;simp;omega,by have:=hHt.out;omega,by omega,by omega,by unfold maxLen;omega,Gq m sn yo hs9,.inl (by have:=HL.out;simp;omega),HC2.out,xE⟩,by simp[Kv]⟩
           ·have hDh:786<c:=by omega
            go_wp2_with fail
            refine HF3.out.mono ?_;rintro en w4 ⟨rfl,hb4⟩;have hV4:=hV3.below hb4 hV3.lt;have xE:=xJ.trans (hb4.mono xJ.size);have s4:w4.cell? ⟨w2.heap.size,4,none⟩=some (.int .i64 (sn:Int)):=by rw[<-HSg.out];exact(hV4.cell 4).trans E.cell_signer
            have hsh:=RI sn hs9;clear x3 hV3 xJ hb4;go_wp2;refine⟨⟨k,l.drop 786,sn,m|||2^sn,_,_,_,rfl,QE m sn yo hs9,rfl,by have:=HL.out;simp;omega,by have:=hHt.out;omega,by omega,by omega,by unfold maxLen;omega,Gq m sn yo hs9,HR.out.cut786,HC2.out,xE⟩,by simp[Kv];omega⟩
          ·have hfb:(f !=0)=true:=by simpa using hf0
           have hfe:(f==0)=false:=by simpa using hf0
           have hck:=HCk.out;rw[if_neg hf0]at hck;have E2:=AA hck.symm;clear hck hf0;by_cases hcc:c=786
           all_goals
            go_wp2_with fail
            refine HF3.out.mono ?_;rintro en w4 ⟨rfl,hb4⟩;have xE:=xJ.trans (hb4.mono xJ.size);go_wp2;go_step3;exact⟨rfl,f,⟨by rw[E2.out],xE⟩,_,_,_,_,_,_,_,_,_,_,_,_,_,_,_,_,_,_,_,_,_,_,_,_,_,_,_,_,_,_,_,_,_,_,_,_,_,_,_,_,_,_,_,_,_,_,_,_,_,_,_,_,_,_,_,_,_,_,_,_,_,_,_,_,_,_,_,_,_,_,rfl⟩
         ·have hbad:∃n,n≠0/\G8 keys l before=n/\((¬(CF l).2=0/\(CF l).2=n)∨((CF l).2=0/\¬(DG l).2=0/\(DG l).2=n)):=by
           unfold G8;by_cases ha:(CF l).2=0
           ·have hbv:¬(DG l).2=0:=fun hh=>h1 ⟨ha,hh⟩
            exact⟨_,hbv,by rw[if_neg (by simpa using ha),if_pos hbv],.inr ⟨ha,hbv,rfl⟩⟩
           ·exact⟨_,ha,by rw[if_pos ha],.inl ⟨ha,rfl⟩⟩
          obtain⟨f,hf0,hfe,hcs⟩:=hbad;have zV:=fun W (hW:ZN w W)=>Mz A c (l.take 786) W ((hrt.below hW).more hW.size) hlt (by omega) (by unfold maxLen;omega) f (by rw[IB,IC];exact hcs)
          have hCl:=AA zV;have hck:(if G8 keys l before=0 then FB keys k (l.drop 786) (CF l).1.signer (m|||2^(CF l).1.signer.toNat)else(0,G8 keys l before))=r:=HD.out;rw[hfe,if_neg hf0]at hck;have E2:=AA hck.symm;have hfb:(f !=0)=true:=by simpa using hf0
          have hfq:(f==0)=false:=by simpa using hf0
          clear zV hrt hlt hck hfe hcs HD h1 hf0;go_wp2_with fail
          refine(hCl.out _ hbw).mono ?_;rintro en w2 ⟨rfl,hb2⟩;have xB:=hbw.trans (hb2.mono hbw.size);clear hb2 hbw hCl;go_wp2_with (refine AI rfl 125 (.tmp 11) (.tmp 48) rfl w2.heap.size B7 rfl rfl 125 B7 (Blk.new w2 _ _) rfl De (fun u hu=>P8 hu) ?_)
          intro w3 hV3 hg3 hs3;have hDb:ZN w2 w3:=((AC _ _).alloc (AB _) _).grown hg3 (by simp) (by rintro j ⟨⟩;omega);have xJ:=xB.trans (hDb.mono xB.size);clear hg3 hs3 hDb hV3;by_cases hcc:c=786
          all_goals
           go_wp2;go_step3;exact⟨rfl,f,⟨by rw[E2.out],xJ⟩,_,_,_,_,_,_,_,_,_,_,_,_,_,_,_,_,_,_,_,_,_,_,_,_,_,_,_,_,_,_,_,_,_,_,_,_,_,_,_,_,_,_,_,_,_,_,_,_,_,_,_,_,_,_,_,_,_,_,_,_,_,_,_,_,_,_,_,_,_,_,rfl⟩
 ·rintro a' w' ⟨why,hR,v0,v1,v2,v3,v4,v5,v6,v7,v8,v10,v11,v12,v13,v14,v15,v16,v17,v18,v19,v20,v21,v22,v23,v24,v25,v26,v27,v28,v29,v30,v31,v32,v33,v34,v35,v36,v37,v38,v39,v40,v41,v42,v43,v44,v45,v46,v47,v48,v49,v50,v51,v52,v53,v54,v55,v56,v57,v58,v59,v60,v61,v62,v63,v64,v65,v66,v67,v68,v69,v70,rfl⟩;go_wp2;simp only[Exit.jump];go_ret2;exact hR
instance (s:Sg):Decidable (D8 s):=by unfold D8;infer_instance
theorem D6(v:Vt):(Ef v).length=23:=rfl
theorem FY{n:Int}(h0:0<=n)(h1:n<=255):((C5 n).toNat:Int)=n:=by
 have:=C6 h0 h1;injection this
theorem SD(v:Vt)(h:Ab v):Oa (Ef v)=v:=by
 obtain⟨⟨a0,a1⟩,⟨b0,b1⟩,⟨c0,c1⟩,⟨d0,d1⟩,⟨e0,e1⟩,f0,f1⟩:=h.bounds;obtain⟨k,s,r,c,g,u,⟨p0,p1,p2,p3,p4,p5,p6,p7⟩,⟨q0,q1,q2,q3,q4,q5,q6,q7⟩⟩:=v;simp only at a0 a1 b0 b1 c0 c1 d0 d1 e0 e1 f0 f1;have h5:(((BZ u.toNat 1).toNat*256+(BZ u.toNat 0).toNat:Nat):Int)=u:=by
  unfold BZ;simp only[UInt8.toNat_ofNat'];omega
 show(⟨((C5 k).toNat:Int),((C5 s).toNat:Int),((C5 r).toNat:Int),((C5 c).toNat:Int),((C5 g).toNat:Int),(((BZ u.toNat 1).toNat*256+(BZ u.toNat 0).toNat:Nat):Int),⟨p0,p1,p2,p3,p4,p5,p6,p7⟩,⟨q0,q1,q2,q3,q4,q5,q6,q7⟩⟩:Vt)=_;rw[h5,FY (by omega) (by omega),FY (by omega) (by omega),FY (by omega) (by omega),FY (by omega) (by omega),FY (by omega) (by omega)]
theorem In(v:Vt)(h:Ab v):Cp (Ef v)=(v,0):=by
 unfold Cp;rw[D6,if_neg (by omega),if_neg (by omega),SD v h,if_pos h]
end
section

theorem Io{s:Sg}(h:D8 s):(E5 s).length=393:=by unfold E5;rw[AF,D6,h.2]
theorem SE{keys:List Nm}{e:Ev}(h:GoodEv keys e)(rest:List UInt8){before:Int}(hb:before<e.a.vote.signer):(CF (Cj e++rest)).1=e.a.vote/\G8 keys (Cj e++rest) before=0/\(Cj e++rest).drop 786=rest:=by
 have la:=Io h.enc.1;have lb:=Io h.enc.2;have l3:(Cj e).length=786:=by unfold Cj;rw[AF,la,lb]
 have t1:(Cj e++rest).take 393=E5 e.a:=by
  unfold Cj;rw[List.append_assoc,List.take_append_of_le_length (by omega),AT (by omega)]
 have t2:(Cj e++rest).drop 393=E5 e.b++rest:=by
  unfold Cj;rw[List.append_assoc,<-la,List.drop_left]
 have s1:∀s:Sg,(E5 s).take 23=Ef s.vote:=fun s=>by unfold E5;rw[List.take_append_of_le_length (by rw[D6];omega),AT (by rw[D6];omega)]
 have s2:∀s:Sg,(E5 s).drop 23=s.sig:=fun s=>by unfold E5;rw[<-D6 s.vote,List.drop_left]
 have t3:(Cj e++rest).take 23=Ef e.a.vote:=by rw[<-ID,t1,s1]
 have t4:((Cj e++rest).drop 393).take 393=E5 e.b:=by rw[t2,List.take_append_of_le_length (by omega),AT (by omega)]
 have t5:((Cj e++rest).drop 393).take 23=Ef e.b.vote:=by rw[<-Im,t4,s1]
 have v1:CF (Cj e++rest)=(e.a.vote,0):=by unfold CF;rw[t3,In _ h.enc.1.1]
 have v2:DG (Cj e++rest)=(e.b.vote,0):=by unfold DG;rw[t5,In _ h.enc.2.1]
 have g1:IA (Cj e++rest)=e.a.sig:=by unfold IA;rw[t1,s2]
 have g2:Il (Cj e++rest)=e.b.sig:=by unfold Il;rw[t4,s2]
 refine⟨by rw[v1],?_,by rw[<-l3,List.drop_left]⟩;unfold G8;rw[v1,v2,g1,g2,if_neg (by simp),if_neg (by simp)];unfold Du;rw[if_pos ⟨h.conf,h.less⟩,if_neg (by simp only;omega),if_neg (by have:=h.lt;simp only;omega),if_pos ⟨h.va,h.vb⟩]
theorem Jn{keys:List Nm}:∀(E:List Ev) (before:Int) (m:Nat),(∀e∈E,GoodEv keys e)->(E.Pairwise fun e f=>e.a.vote.signer<f.a.vote.signer)->(∀e∈E,before<e.a.vote.signer)->
  FB keys E.length (E.flatMap Cj) before m=(((m|||Hh (E.map Ev.vs):Nat):Int),0)
 |[],_,m,_,_,_=>by
  rw[List.length_nil,FB,List.map_nil,Hh,Nat.or_zero]
 |e::r,before,m,hg,hp,hb=>by
  obtain⟨p1,p2⟩:=List.pairwise_cons.1 hp;obtain⟨h1,h2,h3⟩:=SE (hg e (by simp)) (r.flatMap Cj) (hb e (by simp));rw[Ah,List.flatMap_cons,FB,if_pos h2,h1,h3,Jn r _ _ (fun x hx=>hg x (by simp[hx])) p2 p1,List.map_cons,Hh,Nat.or_assoc]
theorem Pq{E:List Ev}(h:Fs E):(UInt8.ofNat E.length).toNat=E.length:=by
 have:=h.2.1;rw[UInt8.toNat_ofNat'];omega
theorem M1{keys:List Nm}{l:List VS}{E:List Ev}(h:E.map Ev.vs=CY (cvS keys l) 10)(hne:E≠[]):My keys (DJ E E.length)=(((GT keys l:Nat):Int),0):=by
 have hb:=Jm h hne;have hl:=MP hb.2.2 (AB _);unfold DJ at hl ⊢;rw[Ah]at hl;rw[AT (AB _)]at hl ⊢;have h1:0<E.length:=List.length_pos_iff.2 hne;have h2:=hb.2.1;unfold My;simp only;rw[Pq hb,if_neg (by omega),if_neg (by omega),if_neg (by omega),Jn E (-1) 0 (H8 h) (MH h) (fun e he=>by have:=(H8 h e he).sgn0;omega),Nat.zero_or,h];rfl

section
variable (p a:Nm)
def a1:Vt:=⟨1,0,0,1,0,0,p,a⟩
def a2:Vt:=⟨2,0,0,1,0,0,p,a⟩
def a3:Vt:=⟨3,0,1,1,0,1,p,a⟩
def a4:Vt:=⟨4,0,1,1,0,1,p,a⟩
def aL:Nat->List Vt
 |0=>[]
 |1=>[a1 p a]
 |2=>[a1 p a,a2 p a]
 |3=>[a1 p a,a2 p a,a3 p a]
 |_=>[a1 p a,a2 p a,a3 p a,a4 p a]
theorem ML(k:Nat):spF 0 p (aL p a k)=aL p a k:=by
 match k with
 |0|1|2|3|k+4=>simp[aL,spF,a1,a2,a3,a4]
theorem Wp(k:Nat):slB 0 (aL p a k)=aL p a k:=by
 match k with
 |0|1|2|3|k+4=>simp[aL,slB,a1,a2,a3,a4]
theorem Xi(k:Nat):slF 0 (aL p a k)=aL p a k:=by
 match k with
 |0|1|2|3|k+4=>simp[aL,slF,a1,a2,a3,a4]
theorem UJ(k:Nat):Nh p (aL p a k)=aL p a k:=by
 match k with
 |0|1|2|3|k+4=>
  unfold Nh;rw[GR]
  ·simp[aL,a1,a2,a3,a4]
  ·simp[aL,a1,a2,a3,a4,Iy,BU]
theorem UK(k:Nat):Gx 1 (aL p a k)=aL p a k:=by
 have e1:KV 1 [] (a1 p a)=true:=by simp[KV,EE,a1];decide
 have e2:KV 1 [a1 p a] (a2 p a)=true:=by simp[KV,EE,a1,a2,Na,Cl];decide
 have e3:KV 1 [a1 p a,a2 p a] (a3 p a)=true:=by
  have i1:CV (xOf 1) 10=[0]:=by decide
  simp[KV,EE,G7,Ep,Lx,Cl,a1,a2,a3,i1];exact⟨by decide,decide_eq_true (by decide),decide_eq_true (by decide)⟩
 have e4:KV 1 [a1 p a,a2 p a,a3 p a] (a4 p a)=true:=by
  have i1:CV (xOf 1) 10=[0]:=by decide
  simp[KV,EE,Ep,KU,JD,Cl,a1,a2,a3,a4,i1];exact⟨by decide,decide_eq_true (by decide),decide_eq_true (by decide)⟩
 match k with
 |0=>rfl
 |1=>simp[aL,Gx,e1]
 |2=>simp[aL,Gx,e1,e2]
 |3=>simp[aL,Gx,e1,e2,e3]
 |k+4=>simp[aL,Gx,e1,e2,e3,e4]
theorem Xj(k:Nat):SmP p (aL p a k):=by
 match k with
 |0|1|2|3|k+4=>simp[aL,SmP,a1,a2,a3,a4]
theorem Xk(k:Nat):SmO p (aL p a k):=by
 match k with
 |0|1|2|3|k+4=>simp[aL,SmO,a1,a2,a3,a4]
end
section
variable {p a:Nm}
theorem JJ{k:Nat}{O:List Vt}(h:FP 1 p ((0:Nat):Int) (slB 0 (aL p a k)) O):O=aL p a k:=by
 rw[Wp]at h;have:=h.2 (Xj p a k);rwa[UJ,UK]at this
theorem Q4{k:Nat}{O:List Vt}(h:FP 1 p ((0:Nat):Int) (spF 0 p (aL p a k)) O):O=aL p a k:=by
 rw[ML,<-Wp]at h;exact JJ h
theorem M2{k:Nat}{L:List Oc}(hk:k<=3)(h:KZ 1 p 0 (aL p a k) L):L=[]:=by
 obtain⟨O,hO,hL,_⟩:=h;rcases L with _|⟨o,L⟩
 ·rfl
 obtain⟨w,hw,h4,_⟩:=GU (hL o BF).2 (by decide);have hm:=(hO.2 w hw).1
 match k,hk with
 |0,_=>simp[aL]at hm
 |1,_=>simp[aL]at hm;subst hm;simp[a1]at h4
 |2,_=>simp[aL]at hm;rcases hm with rfl|rfl <;> simp[a1,a2]at h4
 |3,_=>simp[aL]at hm;rcases hm with rfl|rfl|rfl <;> simp[a1,a2,a3]at h4
theorem Q5{L:List Oc}(h:KZ 1 p 0 (aL p a 4) L):kyO 0 (a4 p a)∈L:=by
 obtain⟨O,_,_,hx⟩:=h;obtain⟨e,hx⟩:=hx (Xk p a 4);rw[Xi,UJ,UK]at e;subst e;rcases hx (a4 p a) (by simp[aL]) rfl (by simp[a4])with h|⟨S,h1,h2⟩
 ·exact h
 ·exfalso;have h0:S.testBit 0=true:=h1 (a4 p a) (by simp[aL]) rfl (by simp[a4]) rfl;have h3:Aw 1 10<=Aw (xOf (S:Int)) 10:=EW (fun i hi hb=>by
   have hi0:i=0:=by
    rcases Nat.eq_zero_or_pos i with h|h
    ·exact h
    ·rw[show(1:Nat)=2^0 from rfl,Nat.testBit_two_pow]at hb;simp at hb;omega
   subst hi0;have e:xOf (S:Int)=S%2^10:=by unfold xOf;omega
   rw[e,Nat.testBit_mod_two_pow,h0];rfl) 10 (AB _)
  have h4:Aw 1 10=1:=by decide
  have h5:CH (Aw (xOf 1) 10)=1:=by decide
  omega
theorem Yj:IN 1 1=1:=by decide
theorem WJ:Aw 1 10=1:=by decide
theorem Yk:Aw 0 10=0:=by decide
theorem Yl(k:Nm):Bx (pK 1 k) (aL p a 1)=if a=k then 1 else 0:=by
 by_cases h:a=k <;> simp[Bx,pK,aL,a1,h]
theorem Xl(k:Nm):Bx (pK 2 k) (aL p a 2)=if a=k then 1 else 0:=by
 by_cases h:a=k <;> simp[Bx,pK,aL,a1,a2,h]
theorem Xm(x:Vl):Bx (pV 3 1 x) (aL p a 3)=if Vl.mk 1 a=x then 1 else 0:=by
 by_cases h:Vl.mk 1 a=x <;> simp[Bx,pV,pW,GD,aL,a1,a2,a3,h]
theorem Y7{x:Vl}(h:DF 3 1 (aL p a 3) x):x=⟨1,a⟩:=by
 obtain⟨v,hv,h1,_,_,rfl⟩:=h;simp[aL]at hv;rcases hv with rfl|rfl|rfl
 ·simp[a1]at h1
 ·simp[a2]at h1
 ·rfl
theorem Wq:DF 3 1 (aL p a 3) ⟨1,a⟩:=⟨a3 p a,by simp[aL],rfl,rfl,by simp[a3],rfl⟩
theorem Kw(k:Nat)(kd r:Int):owF 0 p 0 (aL p a k) kd r=(aL p a k).any fun x=>decide (x.signer=0)&&(decide (x.kind=kd)&&decide (x.round=r)):=by
 unfold owF;rw[ML]
theorem Xn:((0:Int)<=0/\(0:Int)<=9)/\(xOf 1).testBit (0:Int).toNat=true:=by decide
theorem Y8{wt:Bool}{o:Option Vt}(ha:¬a=Nm.zero)(h:C4 1 1 p 0 0 (aL p a 1) [a] wt o):o=some (a2 p a):=by
 have no:¬F8 1 p 0 0 (spF 0 p (aL p a 1)) [a] (owF 0 p 0 (aL p a 1)) none:=by
  rintro(h|⟨O,L,hO,hL,hn⟩)
  ·rw[Kw]at h;simp[aL,a1]at h
  ·rw[ML]at hO;have:=JJ hO;subst this;refine hn a ((hL a).2 ⟨ha,?_⟩) BF;rw[Yl,if_pos rfl,WJ];exact AB _
 rcases o with _|v
 ·rcases h with h|h|⟨L,h,hn⟩|⟨_,h,_⟩
  ·exact absurd Xn h
  ·exact absurd h (by decide)
  ·exact absurd (M2 (by omega) h) hn
  ·exact absurd h no
 ·obtain⟨_,_,_,h|⟨h,_⟩⟩:=h
  ·obtain⟨_,O,k,hO,h0,h1,_,rfl⟩:=h;rw[ML]at hO;have:=JJ hO;subst this;rw[Yl]at h1;by_cases hk:a=k
   ·subst hk;rfl
   ·rw[if_neg hk,Yk]at h1;omega
  ·exact absurd h no
theorem Y9{H:List Nm}{wt:Bool}{o:Option Vt}(ha:¬a=Nm.zero)(h:C4 1 1 p 0 0 (aL p a 2) H wt o):o=some (a3 p a):=by
 have asg:∀O,FP 1 p ((0:Nat):Int) (slB 0 (spF 0 p (aL p a 2))) O->¬Mf 2 1 O []:=by
  intro O hO hL;rw[ML]at hO;have:=JJ hO;subst this;have:=(hL a).2 ⟨ha,by rw[Xl,if_pos rfl,WJ];exact AB _⟩;cases this
 have no:¬Ed 1 1 p 0 0 (spF 0 p (aL p a 2)) wt (owF 0 p 0 (aL p a 2)) none:=by
  rintro(h|⟨_,O,hO,hL⟩)
  ·rw[Kw]at h;simp[aL,a1,a2]at h
  ·exact asg O hO hL
 rcases o with _|v
 ·rcases h with h|h|⟨L,h,hn⟩|⟨_,_,h,_⟩
  ·exact absurd Xn h
  ·exact absurd h (by decide)
  ·exact absurd (M2 (by omega) h) hn
  ·exact absurd h no
 ·obtain⟨_,_,_,h|⟨_,h|⟨h,_⟩⟩⟩:=h
  ·obtain⟨h,_⟩:=h;rw[Kw]at h;simp[aL,a1,a2]at h
  ·obtain⟨_,⟨O,O',k,hO,hO',h0,h1,rfl⟩|⟨_,⟨O,hO,hL⟩,_⟩⟩:=h
   ·rw[ML]at hO hO';have:=JJ hO;subst this;have:=JJ hO';subst this;rw[Xl]at h1;by_cases hk:a=k
    ·subst hk;rw[Xl,if_pos rfl,Yj];rfl
    ·rw[if_neg hk,Yk]at h1;omega
   ·exact absurd hL (asg O hO)
  ·exact absurd h no
theorem ZA{H:List Nm}{wt:Bool}{o:Option Vt}(h:C4 1 1 p 0 0 (aL p a 3) H wt o):o=some (a4 p a):=by
 have no:∀O,FP 1 p ((0:Nat):Int) (spF 0 p (aL p a 3)) O->¬Dk 1 p 0 0 O (owF 0 p 0 (aL p a 3)) 1 none:=by
  rintro O hO (h|h|⟨h,_⟩)
  ·rw[Kw]at h;simp[aL,a1,a2,a3]at h
  ·rw[Kw]at h;simp[aL,a1,a2,a3]at h
  ·have:=Q4 hO;subst this;have:=h _ Wq;rw[Xm,if_pos rfl,WJ]at this;omega
 rcases o with _|v
 ·rcases h with h|h|⟨L,h,hn⟩|⟨_,_,_,O,hO,h⟩
  ·exact absurd Xn h
  ·exact absurd h (by decide)
  ·exact absurd (M2 (by omega) h) hn
  ·exact absurd (h 1 (by omega) (by omega)) (no O hO)
 ·obtain⟨_,_,_,h|⟨_,h|⟨_,O,r,hO,h1,h2,hr,h⟩⟩⟩:=h
  ·obtain⟨h,_⟩:=h;rw[Kw]at h;simp[aL,a1,a2,a3]at h
  ·obtain⟨h,_⟩:=h;rw[Kw]at h;simp[aL,a1,a2,a3]at h
  ·have hr1:r=1:=by
    rcases Int.lt_or_le 1 r with h|h
    ·exact absurd (hr 1 (by omega) h) (no O hO)
    ·omega
   subst hr1;rcases h with h|⟨_,h,_⟩
   ·have:=Q4 hO;subst this;obtain⟨_,_,⟨x,hx,h1,rfl⟩|⟨h,_⟩⟩:=h
    ·have:=Y7 hx;subst this;rw[Xm,if_pos rfl,Yj];rfl
    ·have:=h _ Wq;rw[Xm,if_pos rfl,WJ]at this;omega
   ·exact absurd h (no O hO)
theorem ZB{H:List Nm}{wt:Bool}{o:Option Vt}(h:C4 1 1 p 0 0 (aL p a 4) H wt o):o=none:=by
 rcases o with _|v
 ·rfl
 ·obtain⟨_,_,h,_⟩:=h;have:=Q5 h;cases this
end

section
variable {par a:Nm}
theorem Dp.one_some{l:List Vt}{H:List Nm}{wt:Bool}{v:Vt}(h:Dp 1 par 0 l H wt (some v)):C4 1 1 par 0 0 l H wt (some v):=by
 obtain⟨s,hs,_,h⟩:=h;have hq:CH (Aw (xOf 1) 10)=1:=by decide
 rw[hq]at h;have h0:s=0:=by
  have h1:=h.2.1;rcases Nat.eq_zero_or_pos s with h|h
  ·exact h
  ·exfalso;have e:xOf 1=2^0:=by decide
   rw[e,Nat.testBit_two_pow]at h1;simp at h1;omega
 subst h0;exact h
theorem Dp.one_none{l:List Vt}{H:List Nm}{wt:Bool}(h:Dp 1 par 0 l H wt none):C4 1 1 par 0 0 l H wt none:=by
 have h:=h 0 (by omega);have hq:CH (Aw (xOf 1) 10)=1:=by decide
 rwa[hq]at h
theorem Kx(ha:¬a=Nm.zero)(k:Nat):∀x∈aL par a k,Ab x:=by
 have v1:Ab (a1 par a):=⟨by simp[a1],by simp[a1],by simp[a1,ha],by simp[a1],by simp[a1],by simp[a1],by simp[a1],by simp[a1]⟩;have v2:Ab (a2 par a):=⟨by simp[a2],by simp[a2],by simp[a2,ha],by simp[a2],by simp[a2],by simp[a2],by simp[a2],by simp[a2]⟩;have v3:Ab (a3 par a):=⟨by simp[a3],by simp[a3],by simp[a3,ha],by simp[a3],by simp[a3],by simp[a3],by simp[a3],by simp[a3]⟩;have v4:Ab (a4 par a):=⟨by simp[a4],by simp[a4],by simp[a4,ha],by simp[a4],by simp[a4],by simp[a4],by simp[a4],by simp[a4]⟩
 match k with
 |0=>simp[aL]
 |1=>simp[aL,v1]
 |2=>simp[aL,v1,v2]
 |3=>simp[aL,v1,v2,v3]
 |k+4=>simp[aL,v1,v2,v3,v4]
theorem WK{k:Nat}{wt:Bool}{o:Option Vt}(ha:¬a=Nm.zero)(h1:1<=k)(h4:k<=4)(h:Dp 1 par 0 (aL par a k) (EK (aL par a k)) wt o):(k=4/\o=none)∨(k<4/\∃v,o=some v/\aL par a k++[v]=aL par a (k+1)/\Ab v):=by
 have hH:EK (aL par a 1)=[a]:=by simp[EK,aL,a1]
 have key:∀{o},C4 1 1 par 0 0 (aL par a k) (EK (aL par a k)) wt o->(k=4/\o=none)∨(k<4/\∃v,o=some v/\aL par a k++[v]=aL par a (k+1)):=fun{o} h=>by
  rcases(by omega:k=1∨k=2∨k=3∨k=4)with rfl|rfl|rfl|rfl
  ·rw[hH]at h;exact .inr ⟨by omega,_,Y8 ha h,rfl⟩
  ·exact .inr ⟨by omega,_,Y9 ha h,rfl⟩
  ·exact .inr ⟨by omega,_,ZA h,rfl⟩
  ·exact .inl ⟨rfl,ZB h⟩
 cases o with
 |none=>
  rcases key h.one_none with h|⟨_,v,h,_⟩
  ·exact .inl h
  ·cases h
 |some v=>
  rcases key h.one_some with⟨_,h⟩|⟨h1,v',h2,h3⟩
  ·cases h
  ·injection h2 with h2
   subst h2;refine .inr ⟨h1,v,rfl,h3,?_⟩;have hv:=Kx (par:=par) ha k;obtain⟨s,hs,hd⟩:=h.due hv;exact hd.1
theorem Q6(k:Nat)(X:List VS)(h:X.map (·.1)=aL par a k):B8 X=X:=by
 refine GR ?_;rw[LK];intro i x y hx hy;have e1:(aL par a k)[i]? =some x.1:=by rw[<-h,AQ,hx];rfl
 have e2:(aL par a k)[i+1]? =some y.1:=by rw[<-h,AQ,hy];rfl
 have hl:=(AE.1 e2).1
 match k with
 |0=>simp[aL]at hl
 |1=>simp[aL]at hl
 |2=>
  simp[aL]at hl;have hi:i=0:=by omega
  subst hi;simp[aL]at e1 e2;rw[<-e1,<-e2];simp[a1,a2,BU]
 |3=>
  simp[aL]at hl;rcases(by omega:i=0∨i=1)with rfl|rfl <;> (simp[aL]at e1 e2;rw[<-e1,<-e2];simp[a1,a2,a3,BU])
 |k+4=>
  simp[aL]at hl;rcases(by omega:i=0∨i=1∨i=2)with rfl|rfl|rfl <;> (simp[aL]at e1 e2;rw[<-e1,<-e2];simp[a1,a2,a3,a4,BU])
end
def AwI(par a:Nm)(k:Nat)(G:GmS):Prop:=∃(b:Nat) (P:PrS),G.ps=[(b,P)]/\G.M=1/\G.par=par/\P.mem=0/\P.pay=a/\P.leaf=k/\P.dd=false/\P.L.map (·.vote)=aL par a k
theorem AwI.D{par a:Nm}{k:Nat}{P:PrS}(h:P.L.map (·.vote)=aL par a k):P.D=aL par a k/\B8 (P.L.map Sg.vs)=P.L.map Sg.vs:=by
 have e:(P.L.map Sg.vs).map (·.1)=aL par a k:=by rw[List.map_map];exact h
 have hc:=Q6 k _ e;refine⟨?_,hc⟩;show JH (P.L.map Sg.vs)=_;unfold JH;rw[hc,e]
theorem AwI.more{par a:Nm}{k:Nat}{v:Vt}{G G':GmS}(h:AwI par a k G)(hs:N5 0 v G G')(hv:aL par a k++[v]=aL par a (k+1)):AwI par a (k+1) G':=by
 obtain⟨b,P,h1,h2,h3,h4,h5,h6,h7,h8⟩:=h;obtain⟨b',P',y,sv0,sl,va,vs,L,s1,s2,s3,s4,s5,rfl⟩:=hs;rw[h1]at s1;injection s1 with s1
 injection s1 with s1 s1'
 subst s1;subst s1';refine⟨b,P.signd va L,?_,h2,h3,h4,h5,by show P.leaf+1=k+1;rw[h6],h7,?_⟩
 ·show G.ps.set 0 _=_;rw[h1];rfl
 ·show L.map (·.vote)=_;have e:(P.L.map Sg.vs++[(v,Dj y.seed P.leaf (DU v))]).map (·.1)=aL par a (k+1):=by
   rw[Ae,List.map_map,<-hv,<-h8];rfl
  have e2:L.map (·.vote)=(L.map Sg.vs).map (·.1):=by rw[List.map_map];rfl
  rw[e2,s5,Q6 (k+1) _ e,e]
theorem AwI.good{par a:Nm}{k:Nat}{G:GmS}(ha:¬a=Nm.zero)(hk:k<=4)(h:AwI par a k G):GoodG G:=by
 obtain⟨b,P,h1,h2,h3,h4,h5,h6,h7,h8⟩:=h;refine⟨by rw[h1];simp,fun i b' P' hi=>?_⟩;rw[h1]at hi;have hi0:i=0:=by
  have:=(AE.1 hi).1;simp at this;exact this
 subst hi0;simp at hi;obtain⟨rfl,rfl⟩:=hi;have hl:=congrArg List.length h8;rw[AX]at hl;have hv:=Kx (par:=par) ha k;refine⟨?_,fun x hx=>hv _ (by rw[<-h8];exact List.mem_map_of_mem hx)⟩;have:(aL par a k).length<=4:=by
  match k with
  |0|1|2|3|k+4=>simp[aL]
 omega
theorem Xo{par a:Nm}{L:List Oc}{ok:Bool}(h:Rt 1 par (aL par a 4) L ok):ok=true/\∃o,L=[o]/\o.value=a:=by
 have hi:CV (xOf 1) 10=[0]:=by decide
 rcases h with⟨rfl,⟨h1,h2⟩,_⟩|⟨rfl,⟨i,hAl,hb,h⟩|h⟩
 ·refine⟨rfl,?_⟩;rw[hi]at h1;rcases L with _|⟨o,_|⟨o',L⟩⟩
  ·simp at h1
  ·simp at h1;obtain⟨L',hL⟩:=h2 o BF;rw[h1]at hL;obtain⟨O,hO,hx,_⟩:=hL;obtain⟨w,hw,w1,w2,w3,w4⟩:=GU (hx o BF).2 (by decide);have hm:=(hO.2 w hw).1;refine⟨o,rfl,?_⟩;simp[aL]at hm;rcases hm with rfl|rfl|rfl|rfl
   ·simp[a1]at w1
   ·simp[a2]at w1
   ·simp[a3]at w1
   ·exact w4.symm
  ·simp at h1
 ·exfalso;have h0:i=0:=by
   rcases Nat.eq_zero_or_pos i with h|h
   ·exact h
   ·exfalso;have e:xOf 1=2^0:=by decide
    rw[e,Nat.testBit_two_pow]at hb;simp at hb;omega
  subst h0;have:=Q5 h;cases this
 ·rw[hi]at h;cases h
end
section
open Go.RowKit
attribute [local go_sem ↓] Go.wp_at_zero Go.wp_at_succ Aj Ao Ap Aq
attribute [local go_sem] Ax BB BC BD AK AR AN
theorem Xp{g:Nat}{w:World}(s:Stp)(hk:¬s.kind=1/\¬s.kind=2/\¬s.kind=3):Calls prog 22 #[Az g,s.val] w fun e w'=>e= .returned (.int .i64 1)/\ZN w w':=by
 obtain⟨w1,hw1⟩:=ZH (w.alloc (.cells s.cells 48));have hb1:ZN w w1:=by rw[hw1];exact(AC _ _).alloc (AB _) _
 obtain⟨q,hq⟩:=ZH w.heap.size;have hQ1:Blk w1 q 48 s.cells:=by rw[hw1,hq];exact Blk.new w _ _
 obtain⟨k,hkk⟩:=ZH s.kind;have y3:w1.cell? ⟨q,0,none⟩=some (.int .i64 k):=by rw[hkk];exact hQ1.cell 0
 rw[<-hkk]at hk;have e1:(k==1)=false:=by simpa using hk.1
 have e2:(k==2)=false:=by simpa using hk.2.1
 have e3:(k==3)=false:=by simpa using hk.2.2
 have HW1:=AA hw1;have HQ:=AA hq;clear hw1 hq hQ1 hk hkk;go_enter func22,ntmps22;go_upto_region 3 with fail
 simp only[<-HW1.out,<-HQ.out];go_wp2;go_ret;exact⟨rfl,hb1⟩
theorem Pr:¬Ik Nm.zero 0=Nm.zero:=by unfold Ik;decide+kernel
theorem Pb.one{G:GmS}(h:Pb 1 0 0 Nm.zero G):AwI (OB Nm.zero) (Ik Nm.zero 0) 0 G/\(∀(b:Nat) (P:PrS),G.ps=[(b,P)]->P=FV (0,Ik Nm.zero 0))/\(∃y,G.ks=[y])/\G.sg=[(C0,[])]:=by
 have hM:G.M=1:=h.M;obtain⟨ms,h1,h2⟩:=h.ps;have hi:CV (xOf (bits .and .i64 1 0)) 10=[]:=by decide
 rw[hM,hi]at h1;have h1':ms=[0]:=h1;subst h1';have h3:G.ps.map (·.2)=[FV (0,Ik Nm.zero 0)]:=h2;have h4:∃b,G.ps=[(b,FV (0,Ik Nm.zero 0))]:=by
  rcases hp:G.ps with _|⟨⟨b,P⟩,_|⟨q,l⟩⟩
  ·rw[hp]at h3;simp at h3
  ·rw[hp]at h3;simp only[List.map_cons,List.map_nil,List.cons.injEq,and_true]at h3;exact⟨b,by rw[h3]⟩
  ·rw[hp]at h3;simp at h3
 obtain⟨b,hb⟩:=h4;refine⟨⟨b,_,hb,hM,h.par,rfl,rfl,rfl,rfl,rfl⟩,fun b' P' h=>?_,?_,h.sg⟩
 ·rw[hb]at h;simp only[List.cons.injEq,Prod.mk.injEq,and_true]at h;exact h.2.symm
 ·have h5:=congrArg List.length h.ks;simp at h5;rcases hk:G.ks with _|⟨y,_|⟨z,l⟩⟩
  ·rw[hk]at h5;simp at h5
  ·exact⟨y,rfl⟩
  ·rw[hk]at h5;simp at h5
theorem WL{Bs g b:Nat}{w:World}{G:GmS}{P:PrS}(h:A9 Bs w g G)(hBs:Bs<=w.heap.size)(hG:Pb 1 0 0 Nm.zero G)(hp:G.ps[0]? =some (b,P)):Calls prog 39 #[Az g,Az b] w fun e w'=>e= .returned (.tuple #[])/\Below Bs w w'/\∃G',A9 Bs w' g G'/\AwI (OB Nm.zero) (Ik Nm.zero 0) 4 G':=by
 obtain⟨hI,hP,⟨y,hy⟩,hs⟩:=hG.one;obtain⟨b',P',h1,h2,h3,h4,h5,h6,h7,h8⟩:=hI;rw[h1]at hp;injection hp with hp
 injection hp with hp hp'
 subst hp;subst hp';have hPe:=hP b' P' h1;have hD:=AwI.D (k:=0) h8;obtain⟨par,zt⟩:=ZH (OB Nm.zero);obtain⟨a,ha⟩:=ZH (Ik Nm.zero 0);have hne:¬a=Nm.zero:=by rw[ha];exact Pr
 rw[<-zt]at h3 h8 hD ⊢;rw[<-ha]at h5 h8 hD ⊢;have k:Fn 0 b' 0 0 par 1 a G.ks 0 G P':=⟨by rw[h1];rfl,h4,by rw[hPe],h5,h3,h2,rfl,⟨_,by rw[hs];rfl,Nat.zero_le _⟩,by
  have:=congrArg List.length h8;rw[AX]at this;rw[this];exact Nat.zero_le _,fun x hx=>by
  have:x.vote∈P'.L.map (·.vote):=List.mem_map_of_mem hx;rw[h8]at this;exact absurd this (by simp[aL]),by omega⟩
 have hI0:AwI par a 0 (G.actd 0 b' P'):=⟨b',{P' with acts:=P'.acts+1},by show G.ps.set 0 _=_;rw[h1];rfl,h2,h3,h4,h5,h6,h7,h8⟩;have due:∀{j:Nat} {G1:GmS} {o:Option Vt},1<=j->j<=4->AwI par a j G1->PX 0 G1 o->(j=4/\o=none)∨(j<4/\∃v,o=some v/\aL par a j++[v]=aL par a (j+1)/\Ab v):=fun{j G1 o} hj1 hj4 hA hD=>by
  obtain⟨b1,P1,e1,e2,e3,e4,e5,e6,e7,e8⟩:=hA;obtain⟨b2,P2,f1,f2⟩:=hD;rw[e1]at f1;injection f1 with f1
  injection f1 with f1 f1'
  subst f1;subst f1';rw[e2,e3,e4,(AwI.D e8).1]at f2;exact WK hne hj1 hj4 f2
 have xA:Gy par 0 P'.D=false:=by rw[hD.1];rfl
 refine(Qy (fun G'=>∃j,1<=j/\j<=4/\AwI par a j G') h hBs (by omega) k (by rw[hy];rfl) (by omega) (by omega) ?_ ?_ ?_ ?_).mono ?_
 ·intro h;rw[xA]at h;cases h
 ·intro _ G' hs';exact⟨1,by omega,by omega,hI0.more hs' rfl⟩
 ·intro _ hn;refine absurd ⟨?_,?_⟩ hn
  ·have:=Kx (par:=par) hne 1 (a1 par a) (by simp[aL]);exact this
  ·rw[h6];omega
 ·rintro G1 G2 v ⟨j,hj1,hj4,hA⟩ hdue hsg;rcases due hj1 hj4 hA hdue with⟨_,h⟩|⟨h,v',h',hv,_⟩
  ·cases h
  ·injection h' with h'
   subst h';exact⟨j+1,by omega,by omega,hA.more hsg hv⟩
 ·rintro e w' ⟨rfl,hb,G',P'',hG',hK',⟨j,hj1,hj4,hA⟩,hDc⟩;refine⟨rfl,hb,G',hG',?_⟩;rcases hDc with hDc|hDc
  ·rcases due hj1 hj4 hA hDc with⟨rfl,_⟩|⟨_,v,h,_⟩
   ·exact hA
   ·cases h
  ·exfalso;obtain⟨b1,P1,e1,e2,e3,e4,e5,e6,e7,e8⟩:=hA;have hi:=hK'.hi;rw[e1]at hi;injection hi with hi
   injection hi with _ hi
   subst hi;omega
theorem Dd.one{G G':GmS}{par a:Nm}(hI:AwI par a 4 G)(h:Dd G.ps.length G G'):∃(b:Nat) (P:PrS) (c:Ch),G'.ps=[(b,P)]/\P.dd=true/\P.dec=[c]/\c.value=a:=by
 obtain⟨b,P,h1,h2,h3,h4,h5,h6,h7,h8⟩:=hI;obtain⟨ps',rfl,hl,hx⟩:=h;rw[h1]at hl;rcases ps' with _|⟨⟨b',P'⟩,_|⟨q,l⟩⟩
 ·simp at hl
 ·obtain⟨P0,hP0,hd⟩:=hx 0 b' P' rfl;rw[h1]at hP0;injection hP0 with hP0
  injection hP0 with e1 e2
  subst e2;rw[if_pos (by rw[h1];simp)]at hd;obtain⟨v,d,ok,rfl,⟨hd,_⟩|⟨_,L,_,hL,rfl⟩⟩:=hd
  ·rw[h7]at hd;cases hd
  ·rw[h2,h3,(AwI.D h8).1]at hL;obtain⟨rfl,o,rfl,ho⟩:=Xo hL;exact⟨b',_,Fm o,rfl,rfl,rfl,ho⟩
 ·simp at hl
theorem OP(w:World):Calls prog 13 #[] w fun e w'=>e= .returned (.bool true)/\Below w.heap.size w w':=by
 obtain⟨Bs,hBs⟩:=ZH w.heap.size;have hAg:Hid (Calls prog 27 #[.agg #[.int .i64 1,.int .i64 0,.int .i64 0,.int .u8 0,.int .u8 0,.int .u8 0,.int .u8 0,.int .u8 0,.int .u8 0,.int .u8 0,.int .u8 0]] w fun e w'=>∃g G,e= .returned (.tuple #[Az g,.int .i64 0])/\Below Bs w w'/\A9 Bs w' g G/\Pb 1 0 0 Nm.zero G):=by rw[hBs];exact Qv 1 (by omega) 0 0 Nm.zero w
 obtain⟨a,ha⟩:=ZH (Ik Nm.zero 0);have hne:¬a=Nm.zero:=by rw[ha];exact Pr
 have eP:∀W,(Op.equalIn 10000 24 (.agg a.cells) (.agg At)).run prog W= .ok false W:=fun W=>by
  have:=ED a Nm.zero W 9998;rwa[decide_eq_false hne]at this
 have HDo:Hid (∀V g G,Bs<=V.heap.size->A9 Bs V g G->Pb 1 0 0 Nm.zero G->Calls prog 22 #[Az g,.agg #[.int .i64 1,.int .i64 0,.int .i64 0,.int .i64 0,.int .i64 0,.int .i64 0,.int .i64 0,.int .i64 0,.int .i64 0,.int .u8 0,.int .u8 0,.int .u8 0,.int .u8 0,.int .u8 0,.int .u8 0,.int .u8 0,.int .u8 0,.int .u8 0,.int .u8 0,.int .u8 0,.int .u8 0,.int .u8 0,.int .u8 0,.int .u8 0,.int .u8 0]] V fun e w'=>e= .returned (.int .i64 0)/\Below Bs V w'/\∃G' b P c,A9 Bs w' g G'/\G'.ps=[(b,P)]/\P.dd=true/\P.dec=[c]/\c.value=a):=fun V g G hV hG hN=>by
  obtain⟨⟨b,P,h1,_⟩,_⟩:=hN.one;refine(Tn ⟨1,0,0,⟨0,0,0,0,0,0,Nm.zero,Nm.zero⟩⟩ (AwI (OB Nm.zero) (Ik Nm.zero 0) 4) hG hV (by rw[h1];simp) (fun _ p b' P' V' hp0 hP' hV' hB'=>?_) (fun h=>absurd h (by decide)) (fun h=>absurd h (by decide)) (fun G' hG'=>hG'.good Pr (by omega))).mono ?_
  ·have e0:p=0:=by have:(0:Int)=(p:Int):=hp0;omega
   subst e0;exact(WL hV' hB' hN hP').mono fun e w' ⟨a1,a2,a3⟩=>⟨a1,a2,fun h=>absurd h (by decide),a3⟩
  rintro e w' ⟨hb,_,⟨rfl,G',G'',hI,hT,hG''⟩|⟨_,_,h,_⟩⟩;rotate_left
  ·have:=h rfl;rw[h1]at this;simp at this
  obtain⟨b,P,c,h1,h2,h3,h4⟩:=hT.one hI;exact⟨rfl,hb,G'',b,P,c,hG'',h1,h2,h3,by rw[h4,ha]⟩
 have HBs:=AA hBs;have hBw:Bs<=w.heap.size:=by omega
 clear hBs ha hne;go_enter func13,ntmps13;go_upto_region 2 with(go_at_call 27;refine hAg.out.mono ?_;rintro en w1 ⟨g,G,rfl,hb1,hG1,hN1⟩;have HG1:=AA hG1;have HN1:=AA hN1;clear hG1 hN1)
 have yK:Bs<=w1.heap.size:=AG hBw hb1.size;have hHz:=AA (HDo.out w1 g G yK HG1.out HN1.out);clear hAg HDo;go_upto_region 5 with(go_at_call 22;refine hHz.out.mono ?_;rintro en w2 ⟨rfl,hb2,G2,b,P,c,hG2,hps,hdd,zV,hcv⟩)
 have zC:Below Bs w w2:=hb1.trans hb2;have zW:Bs<=w2.heap.size:=AG yK hb2.size;have HDc:Hid (Calls prog 18 #[Az g,.int .i64 0] w2 fun e w'=>∃ab cc,e= .returned (.tuple #[.slice (some ⟨ab,0,none⟩) 1 cc,.bool true])/\ZN w2 w'/\AJ w' ab 1 8=some a.cells):=by
  have h1:G2.ps[0]? =some (b,P):=by rw[hps];rfl
  refine(Ij hG2 h1 (by rw[zV];simp)).mono ?_;rintro e w' ⟨v,rfl,hb,xA,_⟩;have xA:=xA hdd;rw[zV]at xA;rcases xA.2 with⟨_,h0⟩|⟨ab,cap,cur,rfl,_,hh,_,_,hsz,htk⟩
  ·cases h0
  ·refine⟨ab,cap,by rw[hdd];rfl,hb,?_⟩;rw[<-hcv];refine Bq (fun j u hu=>?_) rfl;have hj:j<8:=(AE.1 hu).1;rw[Blk.cell (show Blk w' ab 88 cur from hh)];have h2:(cur.toList.take (1*9))[1+j]? =some u:=by
    rw[show cur.toList.take (1*9)=[c].flatMap chc from htk];rcases(by omega:j=0∨j=1∨j=2∨j=3∨j=4∨j=5∨j=6∨j=7)with rfl|rfl|rfl|rfl|rfl|rfl|rfl|rfl <;> exact hu
   rw[BP,if_pos (by omega)]at h2;simpa using h2
 have HPr:Hid (∀V,ZN w2 V->Calls prog 17 #[Az g] V fun e w'=>e= .returned (.int .i64 1)/\w'=V):=fun V hV=>by
  have:=Dz (hG2.below hV);rw[hps]at this;exact this
 have HD0:Hid (∀V,Calls prog 22 #[Az g,.agg #[.int .i64 0,.int .i64 0,.int .i64 0,.int .i64 0,.int .i64 0,.int .i64 0,.int .i64 0,.int .i64 0,.int .i64 0,.int .u8 0,.int .u8 0,.int .u8 0,.int .u8 0,.int .u8 0,.int .u8 0,.int .u8 0,.int .u8 0,.int .u8 0,.int .u8 0,.int .u8 0,.int .u8 0,.int .u8 0,.int .u8 0,.int .u8 0,.int .u8 0]] V fun e w'=>e= .returned (.int .i64 1)/\ZN V w'):=fun V=>Xp ⟨0,0,0,⟨0,0,0,0,0,0,Nm.zero,Nm.zero⟩⟩ (by simp)
 clear hG2 hps hdd zV hcv HG1 HN1 hHz hb1 hb2;go_upto_region 6 with(go_at_call 18;refine HDc.out.mono ?_;rintro en w3 ⟨ab,cc,rfl,hb3,x3⟩)
 have xj:Below Bs w w3:=zC.trans (hb3.mono zW);go_wp2_with (first
  |(go_at_call 17;refine(HPr.out _ hb3).mono ?_;rintro en w4 ⟨rfl,hw4⟩;replace hw4:=hw4.symm;subst hw4)
  |(go_at_call 22;refine(HD0.out _).mono ?_;rintro en w5 ⟨rfl,hb5⟩)
  |fail)
 go_ret;exact⟨rfl,by show Below w.heap.size w w5;rw[<-HBs.out];exact xj.trans (hb5.mono (AG zW hb3.size))⟩
end
section
open Go.RowKit
attribute [local go_sem ↓] Go.wp_at_zero Go.wp_at_succ Aj Ao Ap Aq Qz Q0
attribute [local go_sem] Ax BB BC BD Tu Tv AK AR AN
theorem WM(F:List ES)(h:F≠[]):∃E:List Ev,E.map Ev.vs=F/\E≠[]:=by
 refine⟨F.map fun e=>⟨⟨e.1.1,e.1.2,none,0⟩,⟨e.2.1,e.2.2,none,0⟩⟩,?_,fun h0=>h (by simpa using h0)⟩;rw[List.map_map];exact List.map_id'' (fun _=>rfl) F
theorem D0.row{F:List ES}{w w':World}{e:Ending}(h:D0 w F e w')(hF:F≠[]):∃(A:Option Addr) (c:Nat),e= .returned (.tuple #[.slice A (1+786*F.length) c,.bool true])/\ZN w w'/\w'.ownsRow w.heap.size 5 1 (.slice A (1+786*F.length) c) (1+786*F.length) ((pbS F).map B):=by
 rcases h with⟨_,A,c,rfl,xA,hb⟩|⟨h0,_⟩
 ·exact⟨A,c,rfl,hb,xA⟩
 ·exact absurd h0 hF
theorem SF{w:World}{b e size n c:Nat}{A:Option Addr}{xs:List Value}(h:w.ownsRow b e size (.slice A n c) n xs)(hn:0<n):n<=c/\c<=maxLen:=by
 rcases h.2 with⟨_,h0⟩|⟨g,cap,cur,hv,_,_,h1,h2,_⟩
 ·omega
 ·injection hv with _ _ hc
  subst hc;exact⟨h1,h2⟩
theorem Ps(C:Cfg)(A:Option Addr)(k c:Nat)(l:List Stp)(w:World)(hk:l.length=k)(hr:Rd w w.heap.size A (l.flatMap stc))(hok:∀s∈l,s.vote.ok):Calls prog 10 #[C.val,.slice A k c] w fun e w'=>e= .returned (.bool true)/\ZN w w':=by
 obtain⟨w1,hw1⟩:=ZH (w.alloc (.cells C.cells 26));have hb1:ZN w w1:=by rw[hw1];exact(AC _ _).alloc (AB _) _
 obtain⟨q,hq⟩:=ZH w.heap.size;have hQ1:Blk w1 q 26 C.cells:=by rw[hw1,hq];exact Blk.new w _ _
 have x1:AJ w1 q 0 11=some C.cells:=hQ1.row 11 rfl;obtain⟨d0,hd0⟩:=ZH (decide (k<=60));obtain⟨d1,hd1⟩:=ZH (decide (1<=C.n/\C.n<=7));have hEO:Hid (∀W,Calls prog 11 #[.slice A k c] W fun e w'=>e= .returned (.bool d0)/\w'=W):=fun W=>by rw[hd0];exact V0 A k c W
 have zD:Hid (∀W,Calls prog 12 #[C.val] W fun e w'=>e= .returned (.bool d1)/\ZN W w'):=fun W=>by rw[hd1];exact OF C W
 have HAw:=AA OP;have hCS:Hid (d0=true->d1=true->∀V,ZN w V->Calls prog 14 #[C.val,.slice A k c] V fun e w'=>∃g G Bs n,e= .returned (Az g)/\ZN V w'/\V.heap.size<=Bs/\Bs<=w'.heap.size/\A9 Bs w' g G/\PlI n C.T C.L C.seed 60 G/\C.n=(n:Int)/\n<=7):=fun e0 e1 V hV=>by
  rw[hd0]at e0;rw[hd1]at e1;have e0:=of_decide_eq_true e0;have e1:=of_decide_eq_true e1;obtain⟨n,hn⟩:∃n:Nat,C.n=(n:Int):=⟨C.n.toNat,by omega⟩;have hC:C=Cfg.mk (n:Int) C.T C.L C.seed:=by rw[<-hn]
  rw[show C.val=(Cfg.mk (n:Int) C.T C.L C.seed).val by rw[<-hC]];exact(Tx n (by omega) C.T C.L C.seed A k c l V hk e0 ((hr.below hV).more hV.size) hok).mono fun e w' ⟨g,G,Bs,a1,a2,a3,a4,a5,a6⟩=>⟨g,G,Bs,n,a1,a2,a3,a4,a5,a6,hn,by omega⟩
 have HW1:=AA hw1;have HQ:=AA hq;clear hw1 hq hQ1 hd0 hd1 hr hok hk;go_enter func10,ntmps10;go_upto_region 1 with fail
 simp only[<-HW1.out,<-HQ.out];have hsw:=hb1.size;cases d0 with
 |false=>
  clear hCS zD;go_wp2_with (first
   |(go_at_call 11;refine(hEO.out _).mono ?_;rintro en w2 ⟨rfl,hw2⟩;replace hw2:=hw2.symm;subst hw2)
   |(go_at_call 13;refine(HAw.out _).mono ?_;rintro en w3 ⟨rfl,hb3⟩)
   |fail)
  go_ret;exact⟨rfl,hb1.trans (hb3.mono hsw)⟩
 |true=>
 cases d1 with
 |false=>
  clear hCS;go_wp2_with (first
   |(go_at_call 11;refine(hEO.out _).mono ?_;rintro en w2 ⟨rfl,hw2⟩;replace hw2:=hw2.symm;subst hw2)
   |(go_at_call 12;refine(zD.out _).mono ?_;rintro en w3 ⟨rfl,hb3⟩)
   |(go_at_call 13;refine(HAw.out _).mono ?_;rintro en w4 ⟨rfl,hb4⟩)
   |fail)
  go_ret;exact⟨rfl,(hb1.trans (hb3.mono hsw)).trans (hb4.mono (AG hsw hb3.size))⟩
 |true=>
 go_upto_region 3 with(first
  |(go_at_call 11;refine(hEO.out _).mono ?_;rintro en w2 ⟨rfl,hw2⟩;replace hw2:=hw2.symm;subst hw2)
  |(go_at_call 12;refine(zD.out _).mono ?_;rintro en w3 ⟨rfl,hb3⟩)
  |fail)
 have xj:ZN w w3:=hb1.trans (hb3.mono hsw);have hq3:q<w3.heap.size:=by
  have h1:q<w1.heap.size:=by rw[HW1.out,HQ.out];simp
  exact Nat.lt_of_lt_of_le h1 hb3.size
 have x3:AJ w3 q 0 11=some C.cells:=BH x1 hb3 (by rw[HW1.out,HQ.out];simp);have HPl:=AA (hCS.out (by trivial) (by trivial) w3 xj);clear hCS hEO zD x1;go_upto_region 4 with(go_at_call 14;refine HPl.out.mono ?_;rintro en w4 ⟨g,G,Bs,n,rfl,hb4,hB3,hB4,hG4,hI4,hCn,hn7⟩)
 have zF:ZN w w4:=xj.trans (hb4.mono xj.size);have hwB:w.heap.size<=Bs:=AG xj.size hB3;have x4:w4.cell? ⟨q,0,none⟩=some (.int .i64 (n:Int)):=by
  rw[<-hCn];exact(Ds (BH x3 hb4 hq3)).2 0 _ rfl
 have hqB:q<Bs:=by
  have:w3.heap.size<=Bs:=hB3;omega
 obtain⟨N,hN⟩:=ZH G.ps.length;have hN20:N<=20:=by have:=hI4.inv.psn;have:=hI4.inv.n1;omega
 have hCE:Hid (∀V,A9 Bs V g G->Calls prog 16 #[Az g] V fun e w'=>e= .returned (.int .i64 G.hon)/\w'=V):=fun V hV=>Pe hV
 have HPr:Hid (∀V,A9 Bs V g G->Calls prog 17 #[Az g] V fun e w'=>e= .returned (.int .i64 (N:Int))/\w'=V):=fun V hV=>by rw[hN];exact Dz hV
 have HP:Hid (∀p,p<N->∃b P,G.ps[p]? =some (b,P)/\P.mem<=9/\P.dec.length<=10/\P.L.length<=30000):=fun p hp=>by
  obtain⟨⟨b,P⟩,hP⟩:∃x,G.ps[p]? =some x:=⟨_,AD (by rw[<-hN];exact hp)⟩;exact⟨b,P,hP,by have:=(hI4.inv.mem p b P hP).1;omega,(hI4.dec p b P hP).1,by have:=hI4.inv.len hP;omega⟩
 have HDc:Hid (∀V (p b:Nat) (P:PrS),A9 Bs V g G->G.ps[p]? =some (b,P)->Calls prog 18 #[Az g,.int .i64 (p:Int)] V (Tj P V)):=fun V p b P hV hp=>Ij hV hp (by have:=(hI4.dec p b P hp).1;omega)
 have HMm:Hid (∀V (p b:Nat) (P:PrS),A9 Bs V g G->G.ps[p]? =some (b,P)->Calls prog 20 #[Az g,.int .i64 (p:Int)] V fun e w'=>e= .returned (.int .i64 (P.mem:Int))/\w'=V):=fun V p b P hV hp=>Fo hV hp
 obtain⟨hbF,hF⟩:∃f:Nat->Bool,f=fun m=>G.hb m:=⟨_,rfl⟩
 have zw:Hid (∀V (m:Nat),m<=9->Calls prog 19 #[.int .i64 G.hon,.int .i64 (m:Int)] V fun e w'=>e= .returned (.bool (hbF m))/\w'=V):=fun V m hm=>by rw[hF];exact Ff G.hon m (by omega) V
 obtain⟨keys,hCU⟩:=ZH G.pkL;obtain⟨nk,hnk⟩:=ZH G.ks.length;have hkl:keys.length=nk:=by rw[hCU,hnk];unfold GmS.pkL;rw[AX]
 have hH0:nk<=10:=by rw[hnk,hI4.inv.kn];have:=hI4.inv.n1;omega
 have HKs:Hid (∀V,A9 Bs V g G->Bs<=V.heap.size->Calls prog 31 #[Az g] V fun e w'=>∃(A:Option Addr) (c:Nat),e= .returned (.slice A nk c)/\Below Bs V w'/\Ey V w'/\A9 Bs w' g G/\w'.ownsRow V.heap.size 24 8 (.slice A nk c) nk (keys.flatMap nmc)):=fun V hV hB=>by
  refine(T2 hV hB (by rw[<-hnk];exact hH0)).mono ?_;rintro e w' ⟨v,rfl,a1,a2,a3,a4⟩;rw[<-hnk,<-hCU]at a4;obtain⟨A,c,rfl⟩:=Av a4;exact⟨A,c,rfl,a1,a2,a3,a4⟩
 have HHe:Hid (∀V (p b:Nat) (P:PrS),A9 Bs V g G->G.ps[p]? =some (b,P)->P.L.length<=30000->Calls prog 23 #[Az g,.int .i64 (p:Int)] V (KR V (P.L.map Sg.vs))):=fun V p b P hV hp hl=>Ty hV hp (by omega)
 have HAc:Hid (∀(p q' b b':Nat) (P Q:PrS),G.ps[p]? =some (b,P)->G.ps[q']? =some (b',Q)->P.dd=true->Q.dd=true->P.dec≠Q.dec->
   CY (cvS keys (B8 (P.L.map Sg.vs)++B8 (Q.L.map Sg.vs))) 10≠[]/\LX n<=Aw (GT keys (B8 (P.L.map Sg.vs)++B8 (Q.L.map Sg.vs))) 10/\bits .and .i64 ((GT keys (B8 (P.L.map Sg.vs)++B8 (Q.L.map Sg.vs)):Nat):Int) G.hon=0):=fun p q' b b' P Q hp hq hP hQ hne=>by
  rw[hCU];exact hI4.account hn7 hp hq hP hQ hne _ _ rfl rfl
 have hn7':(n:Int)<=7:=by omega
 obtain⟨t3,ht3⟩:=ZH (LX n);have ht10:t3<=10:=by rw[ht3];unfold LX;split <;> omega
 have HTh:Hid (∀V,Calls prog 37 #[.int .i64 (n:Int)] V fun e w'=>e= .returned (.int .i64 (t3:Int))/\w'=V):=fun V=>by rw[ht3];exact SZ n (by omega) V
 have HX:Hid (∀V,Below Bs w4 V->V.cell? ⟨q,0,none⟩=some (.int .i64 (n:Int))):=fun V hV=>(hV.cell (p:=⟨q,0,none⟩) hqB).trans x4
 have hbx:Below Bs w4 w4:=AC _ _;have HG4:=AA hG4;rw[<-ht3]at HAc;clear hG4 hI4 HPl x3 x4 hb4 xj hN hCn hF hCU hnk ht3;go_wp2
 go_loopw [6] (fun iv wr=>∃p:Nat,iv= .int .i64 (p:Int)/\p<=N/\A9 Bs wr g G/\Below Bs w4 wr) (fun iv _=>N-(intOf iv).toNat)
 case atStart=>exact⟨0,rfl,Nat.zero_le _,HG4.out,hbx⟩
 case round=>
  clear HG4;obtain⟨p,rfl,hpN,hG,hb⟩:=hrel;have HG:=AA hG;clear hG;by_cases hp:p<N
  ·have dp:=ZK (show p<N by omega)
   obtain⟨b,P,hP,hPm,hPd,hPl⟩:=HP.out p hp;have HPp:=AA hP;go_wp2_with (go_at_call 17;refine(HPr.out _ HG.out).mono ?_;rintro en w5 ⟨rfl,hw5⟩;replace hw5:=hw5.symm;subst hw5)
   clear hP;have hb0:=hb;have HG0:=HG;clear hb HG
   go_loopw [7] (fun iv wx=>∃q':Nat,iv= .int .i64 (q':Int)/\q'<=p/\A9 Bs wx g G/\Below Bs w4 wx) (fun iv _=>p-(intOf iv).toNat)
   case atStart=>exact⟨0,rfl,Nat.zero_le _,HG0.out,hb0⟩
   case round=>
    clear HG0 hb0;obtain⟨q',rfl,hqp,hG,hb⟩:=hrel;have HG:=AA hG;clear hG;have hBr:Bs<=wr.heap.size:=AG hB4 hb.size;by_cases hq:q'<p
    ·have dq:decide ((q':Int)<(p:Int))=true:=by simp;omega
     obtain⟨b2,Q,hQ,hQm,hQd,hQl⟩:=HP.out q' (by omega);have HQq:=AA hQ;have HDp:=AA (HDc.out wr p b P HG.out HPp.out);clear hQ;go_upto_region 13 with(go_at_call 18;refine HDp.out.mono ?_;rintro en w5 ⟨v5,rfl,hb5,xW,_⟩)
     have HG5:=AA (HG.out.below hb5);have hCh:Below Bs w4 w5:=hb.trans (hb5.mono hBr);have HDq:=AA (HDc.out w5 q' b2 Q HG5.out HQq.out);have HO5:=AA xW;clear xW HDp;go_upto_region 14 with(go_at_call 18;refine HDq.out.mono ?_;rintro en w6 ⟨v6,rfl,hb6,xi,_⟩)
     have hB5:Bs<=w5.heap.size:=AG hB4 hCh.size;have HG6:=AA (HG5.out.below hb6);have yw:Below Bs w4 w6:=hCh.trans (hb6.mono hB5);have hB6:Bs<=w6.heap.size:=AG hB4 yw.size;have HO6:=AA xi;clear xi HDq;obtain⟨e1,he1⟩:=ZI P.dd;obtain⟨e2,he2⟩:=ZI Q.dd;rw[he1,he2];have HE1:=AA he1;have HE2:=AA he2;clear he1 he2;cases e1 with
     |false=>
      go_wp2;go_roundw
      case rel=>exact⟨q'+1,by go_num,by omega,HG6.out,yw⟩
      case measure=>simp[intOf];omega
     |true=>
     cases e2 with
     |false=>
      go_wp2;go_roundw
      case rel=>exact⟨q'+1,by go_num,by omega,HG6.out,yw⟩
      case measure=>simp[intOf];omega
     |true=>
     have hR5:=Ay (HO5.out HE1.out) hb6 (AB _);have hR6:=HO6.out HE2.out;obtain⟨A5,c5,rfl,hS5⟩:=Bj hR5;obtain⟨A6,c6,rfl,hS6⟩:=Bj hR6;clear hR5 hR6 HO5 HO6;obtain⟨k1,hk1⟩:=ZI (hbF P.mem);obtain⟨k2,hk2⟩:=ZI (hbF Q.mem);obtain⟨m5,hm5⟩:=ZH P.dec.length;obtain⟨m6,hm6⟩:=ZH Q.dec.length;rw[<-hm5,<-hm6];have HM5:=AA hm5;have HM6:=AA hm6;have HS5:=AA hS5;have HS6:=AA hS6;clear hm5 hm6 hS5 hS6;cases k1 with
     |false=>
      go_wp2_with (first
       |(go_at_call 16;refine(hCE.out _ HG6.out).mono ?_;rintro en w7 ⟨rfl,hw7⟩;replace hw7:=hw7.symm;subst hw7)
       |(go_at_call 20;refine(HMm.out _ _ _ _ HG6.out (by first|exact HPp.out|exact HQq.out)).mono ?_;rintro en w7 ⟨rfl,hw7⟩;replace hw7:=hw7.symm;subst hw7)
       |(go_at_call 19;refine(zw.out _ _ (by assumption)).mono ?_;rintro en w7 ⟨rfl,hw7⟩;replace hw7:=hw7.symm;subst hw7)
       |fail)
      go_roundw
      case rel=>exact⟨q'+1,by go_num,by omega,HG6.out,yw⟩
      case measure=>simp[intOf];omega
     |true=>
     cases k2 with
     |false=>
      go_wp2_with (first
       |(go_at_call 16;refine(hCE.out _ HG6.out).mono ?_;rintro en w7 ⟨rfl,hw7⟩;replace hw7:=hw7.symm;subst hw7)
       |(go_at_call 20;refine(HMm.out _ _ _ _ HG6.out (by first|exact HPp.out|exact HQq.out)).mono ?_;rintro en w7 ⟨rfl,hw7⟩;replace hw7:=hw7.symm;subst hw7)
       |(go_at_call 19;refine(zw.out _ _ (by assumption)).mono ?_;rintro en w7 ⟨rfl,hw7⟩;replace hw7:=hw7.symm;subst hw7)
       |fail)
      go_roundw
      case rel=>exact⟨q'+1,by go_num,by omega,HG6.out,yw⟩
      case measure=>simp[intOf];omega
     |true=>
     obtain⟨r,hr⟩:=ZH (decide (P.dec=Q.dec));have HCh:Hid (Calls prog 21 #[.slice A5 m5 c5,.slice A6 m6 c6] w6 (Ac w6 r)):=by
      rw[hr];exact Lp A5 A6 m5 m6 c5 c6 P.dec Q.dec w6 HM5.out.symm HM6.out.symm HS5.out HS6.out (by rw[HM5.out];omega)
     have HR:=AA hr;clear hr HM5 HM6 HS5 HS6;cases r with
     |true=>
      go_wp2_with (first
       |(go_at_call 16;refine(hCE.out _ HG6.out).mono ?_;rintro en w7 ⟨rfl,hw7⟩;replace hw7:=hw7.symm;subst hw7)
       |(go_at_call 20;refine(HMm.out _ _ _ _ HG6.out (by first|exact HPp.out|exact HQq.out)).mono ?_;rintro en w7 ⟨rfl,hw7⟩;replace hw7:=hw7.symm;subst hw7)
       |(go_at_call 19;refine(zw.out _ _ (by assumption)).mono ?_;rintro en w7 ⟨rfl,hw7⟩;replace hw7:=hw7.symm;subst hw7)
       |(go_at_call 21;refine HCh.out.mono ?_;rintro en w8 ⟨rfl,hb8⟩)
       |fail)
      go_roundw
      case rel=>exact⟨q'+1,by go_num,by omega,HG6.out.below hb8,yw.trans (hb8.mono hB6)⟩
      case measure=>simp[intOf];omega
     |false=>
     have hne:P.dec≠Q.dec:=of_decide_eq_false HR.out.symm;obtain⟨hf1,hf2,hf3⟩:=HAc.out p q' b b2 P Q HPp.out HQq.out HE1.out HE2.out hne;obtain⟨FF,hFF⟩:=ZH (CY (cvS keys (B8 (P.L.map Sg.vs)++B8 (Q.L.map Sg.vs))) 10);obtain⟨gl,hgl⟩:=ZH (GT keys (B8 (P.L.map Sg.vs)++B8 (Q.L.map Sg.vs)));have hH1:gl<1024:=by rw[hgl];exact RL _ _
     rw[<-hFF]at hf1;rw[<-hgl]at hf2 hf3;obtain⟨pg,hpg⟩:=ZH (Aw gl 10);have HSz:Hid (∀V,Calls prog 15 #[.int .i64 (gl:Int)] V fun e w'=>e= .returned (.int .i64 (pg:Int))/\w'=V):=fun V=>by
      rw[hpg];have:=Ct (gl:Int) V;rwa[EO gl hH1]at this
     have hpt:decide ((pg:Int)<(t3:Int))=false:=by rw[hpg];simp;omega
     have hpt':decide (pg<t3)=false:=by rw[hpg];simp;omega
     have yF:0<1+786*FF.length:=by omega
     --the proof out of what the two hCg
     have HPf:Hid (∀V K L1 L2 A1 A2 n1 n2 ck c1 c2,L1.map Sg.vs=B8 (P.L.map Sg.vs)->L2.map Sg.vs=B8 (Q.L.map Sg.vs)->L1.length=n1->L2.length=n2->Rd V V.heap.size K (keys.flatMap nmc)->Rd V V.heap.size A1 (L1.flatMap sgc)->Rd V V.heap.size A2 (L2.flatMap sgc)->CO V V.heap.size L1->CO V V.heap.size L2->
       Calls prog 35 #[.slice K nk ck,.slice A1 n1 c1,.slice A2 n2 c2] V fun e w'=>∃(A:Option Addr) (c:Nat),e= .returned (.tuple #[.slice A (1+786*FF.length) c,.bool true])/\ZN V w'/\w'.ownsRow V.heap.size 5 1 (.slice A (1+786*FF.length) c) (1+786*FF.length) ((pbS FF).map B)):=fun V K L1 L2 A1 A2 n1 n2 ck c1 c2 e1 e2 l1 l2 hK h1 h2 k1 k2=>by
      have s1:=D9 (P.L.map Sg.vs);have s2:=D9 (Q.L.map Sg.vs);rw[<-e1,AX,AX]at s1;rw[<-e2,AX,AX]at s2;have h:=R6 K A1 A2 nk ck n1 c1 n2 c2 keys L1 L2 V hkl hK l1 l2 h1 h2 (by omega) k1 k2;rw[Ae,e1,e2,<-hFF]at h;exact h.mono fun e w' h=>h.row hf1
     have HCk:Hid (∀V K ck A c,Rd V V.heap.size K (keys.flatMap nmc)->V.ownsRow w.heap.size 5 1 (.slice A (1+786*FF.length) c) (1+786*FF.length) ((pbS FF).map B)->Calls prog 36 #[.slice K nk ck,.slice A (1+786*FF.length) c] V fun e w'=>e= .returned (.tuple #[.int .i64 (gl:Int),.int .i64 0])/\ZN V w'):=fun V K ck A c hK ho=>by
      obtain⟨E,hE1,hE2⟩:=WM FF hf1;have h5:My keys (DJ E E.length)=(((GT keys (B8 (P.L.map Sg.vs)++B8 (Q.L.map Sg.vs)):Nat):Int),0):=M1 (by rw[hE1,hFF]) hE2;rw[MJ,hE1,<-hgl]at h5;obtain⟨o1,o2⟩:=SF ho yF;have hpl:(pbS FF).length=1+786*FF.length:=by have:=ho.1;simpa using this
      exact Pp K A nk ck _ c keys (pbS FF) _ V hkl hpl hK (Rd.of_own ho) o1 o2 h5
     clear hFF hgl hpg hf2 HR hne;go_upto_region 15 with(first
      |(go_at_call 16;refine(hCE.out _ HG6.out).mono ?_;rintro en w7 ⟨rfl,hw7⟩;replace hw7:=hw7.symm;subst hw7)
      |(go_at_call 20;refine(HMm.out _ _ _ _ HG6.out (by first|exact HPp.out|exact HQq.out)).mono ?_;rintro en w7 ⟨rfl,hw7⟩;replace hw7:=hw7.symm;subst hw7)
      |(go_at_call 19;refine(zw.out _ _ (by assumption)).mono ?_;rintro en w7 ⟨rfl,hw7⟩;replace hw7:=hw7.symm;subst hw7)
      |(go_at_call 21;refine HCh.out.mono ?_;rintro en w8 ⟨rfl,hb8⟩)
      |fail)
     have hB8:Bs<=w8.heap.size:=AG hB6 hb8.size;have yu:Below Bs w4 w8:=yw.trans (hb8.mono hB6);have HG8:=AA (HG6.out.below hb8);clear HCh;have tok1:True:=trivial;go_upto_region 16 with(first
      |(go_at_call 31;refine(HKs.out _ HG8.out hB8).mono ?_;rintro en w9 ⟨K9,ck9,rfl,hb9,_,hG9,hO9⟩;have HG9:=AA hG9;have HO9:=AA hO9;have hH2:=yu.trans hb9;have hB9:=AG hB4 hH2.size;clear hG9 hO9)
      |(have _t:=tok1;go_at_call 23;refine(HHe.out w9 p b P HG9.out HPp.out hPl).mono ?_;rintro en w10 ⟨L1,v10,rfl,hBl,yU,yn,hH3⟩;obtain⟨A10,c10,rfl⟩:=Av yU;have hFj:=AA (HG9.out.below hBl);have hH4:=AA yU;have hH5:=AA yn;have hCH:=AA hH3;have hEh:=hH2.trans (hBl.mono hB9);have hB10:=AG hB4 hEh.size;clear yU yn hH3 tok1 _t)
      |(go_at_call 23;refine(HHe.out w10 q' b2 Q hFj.out HQq.out hQl).mono ?_;rintro en w11 ⟨L2,v11,rfl,yh,hCI,hH6,hH7⟩;obtain⟨A11,c11,rfl⟩:=Av hCI;have hCo:=AA (hFj.out.below yh);have hH8:=AA hCI;have hH9:=AA hH6;have hIA:=AA hH7;have hBL:=hEh.trans (yh.mono hB10);have hIB:=AG hB4 hBL.size;clear hCI hH6 hH7)
      |(go_at_call 35;refine(HPf.out w11 K9 L1 L2 A10 A11 _ _ ck9 c10 c11 hCH.out hIA.out rfl rfl (Rd.of_own (Ay (Ay HO9.out hBl (AB _)) yh (AB _))) (Rd.of_own (Ay hH4.out yh (AB _))) (Rd.of_own hH8.out) (fun s hs=>((hH5.out s hs).below yh (AB _)).ok) (fun s hs=>(hH9.out s hs).ok)).mono ?_;rintro en w12 ⟨A12,c12,rfl,xd,hDd⟩)
      |fail)
     have HG12:=AA (hCo.out.below xd);have hEi:Below Bs w4 w12:=hBL.trans (xd.mono hIB);have hB12:Bs<=w12.heap.size:=AG hB4 hEi.size;have hIC:=AA (BE hDd (AG hwB hIB));clear hDd HPf HO9 hH4 hH8 hH5 hH9 hCH hIA HG8 HG9 hFj hCo;go_upto_region 17 with(first
      |(go_at_call 31;refine(HKs.out _ HG12.out hB12).mono ?_;rintro en w13 ⟨K13,ck13,rfl,yC,hEj,hID,hIE⟩;have HG13:=AA hID;have hIF:=AA hIE;have HOP:=AA (R3 hIC.out hEj);have hEk:=hEi.trans yC;have hB13:=AG hB4 hEk.size;clear hID hIE hEj)
      |(go_at_call 36;refine(HCk.out w13 K13 ck13 A12 c12 (Rd.of_own hIF.out) HOP.out).mono ?_;rintro en w14 ⟨rfl,zN⟩)
      |fail)
     have HG14:=AA (HG13.out.below zN);have hEl:Below Bs w4 w14:=hEk.trans (zN.mono hB13);have hIG:w14.drew.cell? ⟨q,0,none⟩=some (.int .i64 (n:Int)):=HX.out w14.drew hEl.drew;have hIH:=AA (HG14.out.below (AC w14.heap.size w14).drew);have HHo:=AA (hCE.out w14.drew hIH.out);have hEP:=AA hIG;clear hIF HOP HCk hIC hIG;refine rgD (fun V=>V.cell? ⟨q,0,none⟩=some (.int .i64 (n:Int))) (hEP.out) fun _=>?_
     iterate 8 (refine tkA ?_;go_frame)
     refine tkD 110 9 ?_;go_frame;refine tkD 111 10 ?_;go_frame;refine rd1 8 fun K hK=>?_
     go_simp;refine(HSz.out _).mono ?_;rintro en w15 ⟨rfl,zv⟩;replace zv:=zv.symm;subst zv;go_wp2_with fail
     refine hK.out _ _ (hEP.out) (fun _=>?_);clear hK K;try go_frame
     refine rd1 11 fun K hK=>?_
     go_simp;refine(HTh.out _).mono ?_;rintro en w15 ⟨rfl,zv⟩;replace zv:=zv.symm;subst zv;go_wp2_with fail
     refine hK.out _ _ (hEP.out) (fun _=>?_);clear hK K;try go_frame
     iterate 5 (refine tkA ?_;go_frame)
     refine rd1 17 fun K hK=>?_
     go_simp;refine HHo.out.mono ?_;rintro en w15 ⟨rfl,zv⟩;replace zv:=zv.symm;subst zv;go_wp2_with fail
     refine hK.out _ _ (hEP.out) (fun _=>?_);clear hK K;try go_frame
     iterate 3 (refine tkA ?_;go_frame)
     refine dnD ?_;go_wp2_with fail
     go_roundw
     case rel=>exact⟨q'+1,by go_num,by omega,hIH.out,hEl.drew⟩
     case measure=>simp[intOf];omega
    ·have dq:decide ((q':Int)<(p:Int))=false:=by simp;omega
     go_wp2;go_roundw
     case rel=>exact⟨p+1,by go_num,by omega,HG.out,hb⟩
     case measure=>simp[intOf];omega
  ·have dp:=ZL (show N<=p by omega)
   go_wp2_with (first
    |(go_at_call 17;refine(HPr.out _ HG.out).mono ?_;rintro en w5 ⟨rfl,hw5⟩;replace hw5:=hw5.symm;subst hw5)
    |(go_at_call 13;refine(HAw.out _).mono ?_;rintro en w6 ⟨rfl,hb6⟩)
    |fail)
   go_ret;exact⟨rfl,(zF.trans (hb.mono hwB)).trans (hb6.mono (AG hwB (AG hB4 hb.size)))⟩
end
end Go.Proofs.YtadllffeoibelaaGreat
