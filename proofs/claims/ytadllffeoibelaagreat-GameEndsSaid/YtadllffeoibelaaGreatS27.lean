/-
  Parts of the proof. No condition.
-/
import Derived.Test.YtadllffeoibelaaGreatS26
import Derived.Deep.CutBlock
open Go.Proofs.Tryz
namespace Go.Proofs.YtadllffeoibelaaGreat
set_option maxRecDepth 100000
set_option maxHeartbeats 32000000
set_option linter.all false
section
open Go.RowKit
attribute [local go_sem ↓] Go.wp_at_zero Go.wp_at_succ Aq Au Av Aw
attribute [local go_sem] BE BL BM BN AR AX AU
def GmS.PL(G:GmS)(i:Nat):List Sg:=(G.ps.map (·.2.L)).getD i []
theorem GmS.PL_of{G:GmS}{i b:Nat}{P:PrS}(h:G.ps[i]? =some (b,P)):G.PL i=P.L:=by
 unfold GmS.PL;rw[List.getD_eq_getElem?_getD,AV,h];rfl
def GmS.all(G:GmS)(idx:List Nat):List Sg:=idx.flatMap G.PL
def Ed(X:List VS)(idx:List Nat)(k:Nat)(G G':GmS):Prop:=∃ps',G'={G with ps:=ps'}/\ps'.length=G.ps.length/\∀(i b:Nat) (P':PrS),ps'[i]? =some (b,P')->∃P,G.ps[i]? =some (b,P)/\((i∈idx.take k/\∃v L,P'=P.more v L/\L.map Sg.vs=Cc (P.L.map Sg.vs++X))∨(¬i∈idx.take k/\P'=P))
abbrev Ep(idx:List Nat)(k:Nat)(G G':GmS):Prop:=Ed ((G.all idx).map Sg.vs) idx k G G'
theorem PA{α β:Type}(f:α->List β)(c:Nat):∀l:List α,(∀x∈l,(f x).length<=c)->(l.flatMap f).length<=l.length*c
 |[],_=>by simp
 |a::l,h=>by
  have h1:=PA f c l (fun x hx=>h x (List.mem_cons_of_mem _ hx));have h2:=h a Am;rw[List.flatMap_cons,AI,Ag,Nat.add_mul];omega
theorem Ed.zero(X:List VS)(idx:List Nat)(G:GmS):Ed X idx 0 G G:=⟨G.ps,rfl,rfl,fun i b P' h=>⟨P',h,.inr ⟨by simp,rfl⟩⟩⟩
theorem Ed.old{X:List VS}{idx:List Nat}{k i:Nat}{G G':GmS}(hnd:idx.Nodup)(hk:idx[k]? =some i)(h:Ed X idx k G G'){b:Nat}{P':PrS}(hi:G'.ps[i]? =some (b,P')):G.ps[i]? =some (b,P'):=by
 obtain⟨ps',rfl,hl,h⟩:=h;obtain⟨P,hP,⟨h1,_⟩|⟨_,rfl⟩⟩:=h i b P' hi
 ·exfalso;obtain⟨j,hj⟩:=List.getElem?_of_mem h1;have hjk:=(AF.1 hj).1;rw[AZ]at hjk;rw[BT,if_pos (by omega)]at hj;have hkl:=(AF.1 hk).1;have:=(List.getElem?_inj (i:=j) (j:=k) (by omega) hnd).1 (by rw[hj,hk]);omega
 ·exact hP
theorem Ed.turn{X:List VS}{idx:List Nat}{k i b:Nat}{G G':GmS}{P:PrS}{v:Value}{L:List Sg}(hnd:idx.Nodup)(hk:idx[k]? =some i)(h:Ed X idx k G G')(hi:G'.ps[i]? =some (b,P))(hL:L.map Sg.vs=Cc (P.L.map Sg.vs++X)):Ed X idx (k+1) G (G'.setP i b (P.more v L)):=by
 have ho:=h.old hnd hk hi;obtain⟨ps',rfl,hl,h⟩:=h;refine⟨ps'.set i (b,P.more v L),rfl,by rw[List.length_set];exact hl,fun j b' Q hj=>?_⟩;have yM:∀j,j∈idx.take (k+1)↔j∈idx.take k∨j=i:=fun j=>by
  rw[Ah,hk,BF,AP,AM]
 rcases Bu hj with⟨rfl,e⟩|⟨hne,hj⟩
 ·injection e with e1 e2
  subst e1;exact⟨P,ho,.inl ⟨(yM i).2 (.inr rfl),v,L,e2,hL⟩⟩
 ·obtain⟨P0,hP,hx⟩:=h j b' Q hj;refine⟨P0,hP,hx.imp (fun hx=>⟨(yM j).2 (.inl hx.1),hx.2⟩) (fun hx=>⟨fun hc=>?_,hx.2⟩)⟩;rcases(yM j).1 hc with hc|hc
  ·exact hx.1 hc
  ·exact hne hc.symm
theorem GmS.all_take{G:GmS}{idx:List Nat}{k i:Nat}(h:idx[k]? =some i):G.all (idx.take (k+1))=G.all (idx.take k)++G.PL i:=by
 unfold GmS.all;rw[Ah,h,BF,Af,List.flatMap_singleton]
def KSt(w w':World):Prop:=∀(b:Nat) (cs:Array Value),Blk w b 48 cs->Blk w' b 48 cs
def Cv(w w':World):Prop:=∀(b t:Nat) (cs:Array Value),t≠97->Blk w b t cs->Blk w' b t cs
theorem Cv.below{w w1 w2:World}(h:Cv w w1)(hb:Wx w1 w2):Cv w w2:=fun b t cs ht hB=>(h b t cs ht hB).below hb (h b t cs ht hB).lt
theorem Cv.off{w w1 w2:World}{k:Nat}{cs':Array Value}(h:Cv w w1)(hg:w1.grownBy w2 (some k))(hk:Blk w1 k 97 cs'):Cv w w2:=fun b t cs ht hB=>(h b t cs ht hB).off hg (.blk hk (fun e=>ht e.symm))
theorem Cv.refl(w:World):Cv w w:=fun _ _ _ _ h=>h
theorem Cv.trans{w w1 w2:World}(h:Cv w w1)(h':Cv w1 w2):Cv w w2:=fun b t cs ht hB=>h' b t cs ht (h b t cs ht hB)
theorem Mk{Bs g:Nat}{w:World}{G:GmS}(h:Ax Bs w g G)(hBs:Bs<=w.heap.size)(idx:List Nat)(hnd:idx.Nodup)(hlt:∀i∈idx,i<G.ps.length)(hl20:idx.length<=20)(hsm:∀(i b:Nat) (P:PrS),G.ps[i]? =some (b,P)->P.L.length<=25000)(A:Option Addr)(n c:Nat)(hn:idx.length=n)(hr:w.ownsRow Bs 98 1 (.slice A n c) n (idx.map fun i=>At (G.bk i))):Calls prog 40 #[At g,.slice A n c] w fun e w'=>e= .returned (.tuple #[])/\Below Bs w w'/\Cv w w'/\∃G',Ax Bs w' g G'/\Ep idx n G G':=by
 have HP:Hid (∀k i,idx[k]? =some i->∃b P,G.ps[i]? =some (b,P)/\G.bk i=b/\G.PL i=P.L/\P.L.length<=25000):=fun k i hk=>by
  obtain⟨⟨b,P⟩,hp⟩:∃x,G.ps[i]? =some x:=⟨_,AE (hlt i (AN hk))⟩;exact⟨b,P,hp,GmS.bk_of hp,GmS.PL_of hp,hsm i b P hp⟩
 have HA:Hid (∀k i,idx[k]? =some i->∃ab,A=some ⟨ab,0,none⟩/\∀V:World,V.ownsRow Bs 98 1 (.slice A n c) n (idx.map fun i=>At (G.bk i))->V.cell? ⟨ab,k,none⟩=some (At (G.bk i))):=fun k i hk=>by
  have key:∀V:World,V.ownsRow Bs 98 1 (.slice A n c) n (idx.map fun i=>At (G.bk i))->∃ab,A=some ⟨ab,0,none⟩/\V.cell? ⟨ab,k,none⟩=some (At (G.bk i)):=fun V hV=>by
   obtain⟨ab,ac,hv,xH,_,_⟩:=CT (i:=k) (u:=At (G.bk i)) hV (by rw[AV,hk];rfl);injection hv with hv _ _
   exact⟨ab,hv,xH⟩
  obtain⟨ab,e,_⟩:=key w hr;refine⟨ab,e,fun V hV=>?_⟩;obtain⟨ab',e',hc⟩:=key V hV;rw[e]at e';injection e' with e'
  injection e' with e'
  rw[e'];exact hc
 have hal:∀k,(G.all (idx.take k)).length<=500000:=fun k=>by
  have:=PA G.PL 25000 (idx.take k) (fun i hi=>by
   obtain⟨j,hj⟩:=List.getElem?_of_mem (List.mem_of_mem_take hi);obtain⟨b,P,_,_,e,hl⟩:=HP.out j i hj;rw[e];exact hl)
  unfold GmS.all;have h2:(idx.take k).length<=20:=by rw[AZ];omega
  omega
 have HSg:Hid (∀s∈G.all idx,CC w Bs s):=fun s hs=>by
  obtain⟨i,hi,hs⟩:=List.mem_flatMap.1 hs;obtain⟨j,hj⟩:=List.getElem?_of_mem hi;obtain⟨b,P,hp,_,e,_⟩:=HP.out j i hj;rw[e]at hs;exact(h.prs _ _ hp).1.sgs s hs
 have HG:=AA h;have HR:=AA hr;have HN:=AA hn;have HNd:=AA hnd;have HAl:=AA hal;clear h hr hsm hlt hnd hal;go_enter func40,ntmps40;go_wp2
 go_loopw [4,11] (fun v iv wr=>∃k:Nat,iv= .int .i64 (k:Int)/\k<=n/\wr.ownsRow w.heap.size 62 23 v (G.all (idx.take k)).length ((G.all (idx.take k)).flatMap sgc)/\Wx w wr) (fun _ iv _=>n-(intOf iv).toNat)
 case atStart=>exact⟨0,rfl,Nat.zero_le _,⟨by simp[GmS.all],.inl ⟨rfl,rfl⟩⟩,AC _ _⟩
 case round=>
  obtain⟨k,rfl,hkn,xB,hb⟩:=hrel;have xF:=AA xB;clear xB;by_cases hk:k<n
  ·have dk:=Wu (show k<n by omega)
   obtain⟨i,hi⟩:∃i,idx[k]? =some i:=⟨_,AE (by rw[HN.out];exact hk)⟩;obtain⟨b,P,hp,hbk,hPL,hPl⟩:=HP.out k i hi;obtain⟨ab,rfl,hc⟩:=HA.out k i hi;have x1:wr.cell? ⟨ab,k,none⟩=some (At b):=by rw[<-hbk];exact hc wr (BP HR.out hb (AB _))
   have hPA:=((HG.out.below hb).prs _ _ hp).1;obtain⟨A1,c1,hv1,hR1⟩:=Bg hPA.row;have x2:wr.cell? ⟨b,0,none⟩=some (.slice A1 P.L.length c1):=by rw[<-hv1];exact hPA.blk.cell 0
   obtain⟨m,hm⟩:=Ws P.L.length;rw[hm]at x2 hPl;obtain⟨Lk,hLk⟩:=Wr (G.all (idx.take k));have hLl:Lk.length<=500000:=by rw[hLk];exact HAl.out k
   have hEK:Hid (wr.ownsRow w.heap.size 62 23 u4 Lk.length (Lk.flatMap sgc)):=by rw[hLk];exact xF.out
   have HLn:Hid (G.all (idx.take (k+1))=Lk++P.L):=by unfold Hid;rw[GmS.all_take hi,hPL,hLk]
   have HR1:=AA hR1;have HM:=AA hm;clear hi hp hbk hPL hc hPA hv1 hR1 hm hLk xF;go_wp2_with ((at_builtin;refine Ar rfl (.tmp 15) (.tmp 20) _ rfl w.heap.size 62 (.agg BI) 23 88 underlying50 DJ rfl (by decide) u4 Lk.length (Lk.flatMap sgc) rfl hEK.out wr.heap.size A1 m c1 (P.L.flatMap sgc) rfl (by rw[AY sgc 23 P.L (C0 P.L),HM.out]) HR1.out (fun u hu=>by obtain⟨s,_,hs⟩:=List.mem_flatMap.1 hu;exact s.one u hs) (by omega) (by unfold maxLen;omega) hb.size ?_;intro v7 w7 xE hg7 xo))
   have hb7:=BO hb hEK.out hg7;have xO:Hid (w7.ownsRow w.heap.size 62 23 v7 (G.all (idx.take (k+1))).length ((G.all (idx.take (k+1))).flatMap sgc)):=by
    unfold Hid;rw[HLn.out,AI,Af,HM.out];exact xE
   clear xE hg7 xo;go_wp2;go_roundw
   case rel=>exact⟨k+1,by go_num,by omega,xO.out,hb7⟩
   case measure=>simp[intOf];omega
  ·have dk:=Wv (show n<=k by omega)
   have hal:=HAl.out k;have e:idx.take k=idx:=AT (by rw[HN.out];omega);rw[e]at hal;have yD:Hid (wr.ownsRow w.heap.size 62 23 u4 (G.all idx).length ((G.all idx).flatMap sgc)):=by have h2:=xF.out;rw[e]at h2;exact h2
   clear xF e;obtain⟨LA,hLA⟩:=Wr (G.all idx);rw[<-hLA]at hal yD;obtain⟨AL,cL,hvL⟩:=BD yD.out;obtain⟨nL,hnL⟩:=Ws LA.length;rw[hnL]at hvL hal;subst hvL;have HLA:=AA hLA;have HNL:=AA hnL;have hbB:Below Bs w wr:=hb.mono hBs;have HK0:=AA ((Cv.refl w).below hb);have hG0:=HG.out.below hb;have hR0:wr.ownsRow Bs 98 1 (.slice A n c) n (idx.map fun i=>At (G.bk i)):=BP HR.out hb (AB _);have hO0:wr.ownsRow Bs 62 23 (.slice AL nL cL) nL (LA.flatMap sgc):=by
    have h2:=BS yD.out hBs;rwa[HNL.out]at h2
   have hS0:∀s∈LA,CC wr Bs s:=fun s hs=>(HSg.out s (by rw[<-HLA.out];exact hs)).below hb (AB _)
   have HG0:=AA hG0;have HR0:=AA hR0;have HO0:=AA hO0;have HS0:=AA hS0;clear hLA hnL hG0 hR0 hO0 hS0 yD;go_wp2
   go_loopw [25] (fun iv wr=>∃(k:Nat) (G':GmS),iv= .int .i64 (k:Int)/\k<=n/\Ax Bs wr g G'/\Ep idx k G G'/\wr.ownsRow Bs 98 1 (.slice A n c) n (idx.map fun i=>At (G.bk i))/\wr.ownsRow Bs 62 23 (.slice AL nL cL) nL (LA.flatMap sgc)/\(∀s∈LA,CC wr Bs s)/\Cv w wr/\Below Bs w wr) (fun iv _=>n-(intOf iv).toNat)
   case atStart=>exact⟨0,G,rfl,Nat.zero_le _,HG0.out,Ed.zero _ idx G,HR0.out,HO0.out,HS0.out,HK0.out,hbB⟩
   case round=>
    clear HG0 HR0 HO0 HS0 HK0 hbB hb;obtain⟨k,G4,rfl,hkn,hG4,hT4,hR4,hO4,hS4,hK4,hb4⟩:=hrel;by_cases hk:k<n
    ·have dk:=Wu (show k<n by omega)
     obtain⟨i,hi⟩:∃i,idx[k]? =some i:=⟨_,AE (by rw[HN.out];exact hk)⟩;obtain⟨b,P,hp,hbk,hPL,hPl⟩:=HP.out k i hi;obtain⟨ab,rfl,hc⟩:=HA.out k i hi;have x1:wr.cell? ⟨ab,k,none⟩=some (At b):=by rw[<-hbk];exact hc wr hR4
     have hp4:G4.ps[i]? =some (b,P):=by
      obtain⟨⟨b4,P4⟩,h4⟩:∃x,G4.ps[i]? =some x:=⟨_,AE (by
       obtain⟨ps',rfl,hl,_⟩:=hT4;show i<ps'.length;rw[hl];exact(AF.1 hp).1)⟩
      have:=hT4.old HNd.out hi h4;rw[hp]at this;rw[this]at*;exact h4
     have yS:Bs<=wr.heap.size:=AG hBs hb4.size;have hBC:=AA (Li (hG4.prs _ _ hp4).1 yS AL nL cL LA HNL.out (Rd.of_own hO4) (fun s hs=>(hS4 s hs).ok) (by have:P.L.length<=25000:=hPl;show P.L.length+nL<=_;omega));have hPb:=(hG4.prs _ _ hp4).1.blk;have hBa:=(hG4.prs _ _ hp4).2;have HI:=AA hi;have HG4:=AA hG4;have HT4:=AA hT4;have HR4:=AA hR4;have HO4:=AA hO4;have HS4:=AA hS4;have HP4:=AA hp4;have HPb:=AA hPb;have HK4:=AA hK4;clear hi hp hbk hPL hPl hc hG4 hT4 hR4 hO4 hS4 hp4 hPb hK4;go_wp2_with (go_at_call 76;refine hBC.out.mono ?_;rintro en w7 ⟨v7,L7,rfl,hP7,hL7,hg7⟩)
     have HG7:=AA (HG4.out.setP HP4.out hg7 hP7);have HT7:=AA (HT4.out.turn (v:=v7) (L:=L7) HNd.out HI.out HP4.out (by rw[<-HLA.out,<-Ad];exact hL7));have HR7:=AA (BK HR4.out hg7 (.blk HPb.out (by decide)));have HO7:=AA (BK HO4.out hg7 (.blk HPb.out (by decide)));have HS7:Hid (∀s∈LA,CC w7 Bs s):=fun s hs=>(HS4.out s hs).off hg7 (.blk HPb.out (by decide))
     have HK7:=AA (HK4.out.off hg7 HPb.out);have hb7:Below Bs w w7:=hb4.grown hg7 yS (Wt hBa);clear hP7 hL7 hg7 hBC;go_wp2;go_roundw
     case rel=>exact⟨k+1,_,by go_num,by omega,HG7.out,HT7.out,HR7.out,HO7.out,HS7.out,HK7.out,hb7⟩
     case measure=>simp[intOf];omega
    ·have dk:=Wv (show n<=k by omega)
     have e:k=n:=by omega
     have HT5:Hid (Ep idx n G G4):=by rw[<-e];exact hT4
     have HG5:=AA hG4;have HK5:=AA hK4;clear hG4 hT4 hR4 hO4 hS4 hK4 e;go_wp2;go_end0;exact⟨rfl,hb4,HK5.out,G4,HG5.out,HT5.out⟩
def WL(G:GmS)(P P':PrS):Prop:=∃(v:Value) (d:List Ch) (ok:Bool),P'={P with dv:=v,dec:=d,dd:=ok}/\((P.dd=true/\P'=P)∨(P.dd=false/\∃L,L.length<=10/\Nx G.M G.par P.D L ok/\d=L.map FR))
def CQ(j:Nat)(G G':GmS):Prop:=∃ps',G'={G with ps:=ps'}/\ps'.length=G.ps.length/\∀(i b:Nat) (P':PrS),ps'[i]? =some (b,P')->∃P,G.ps[i]? =some (b,P)/\(if i<j then WL G P P' else P'=P)
theorem CQ.zero(G:GmS):CQ 0 G G:=⟨G.ps,rfl,rfl,fun i b P' h=>⟨P',h,by rw[if_neg (by omega)]⟩⟩
theorem CQ.stay{j b:Nat}{G G':GmS}{P':PrS}(h:CQ j G G')(hj:G'.ps[j]? =some (b,P'))(hd:P'.dd=true):CQ (j+1) G G':=by
 obtain⟨ps',rfl,hl,h⟩:=h;refine⟨ps',rfl,hl,fun i b' Q hi=>?_⟩;obtain⟨P,hP,hx⟩:=h i b' Q hi;refine⟨P,hP,?_⟩;by_cases h1:i<j
 ·rw[if_pos h1]at hx;rw[if_pos (by omega)];exact hx
 ·rw[if_neg h1]at hx;by_cases h2:i=j
  ·subst h2;rw[show({G with ps:=ps'}:GmS).ps=ps' from rfl,hi]at hj;injection hj with hj
   injection hj with hj hj'
   subst hj';rw[if_pos (by omega)];subst hx;exact⟨_,_,_,rfl,.inl ⟨hd,rfl⟩⟩
  ·rw[if_neg (by omega)];exact hx
theorem CQ.turn{j b:Nat}{G G':GmS}{P':PrS}{v:Value}{L:List Oc}{ok:Bool}(h:CQ j G G')(hj:G'.ps[j]? =some (b,P'))(hd:P'.dd=false)(hL:Nx G.M G.par P'.D L ok)(hl10:L.length<=10):CQ (j+1) G (G'.setP j b {P' with dv:=v,dec:=L.map FR,dd:=ok}):=by
 obtain⟨ps',rfl,hl,h⟩:=h;refine⟨ps'.set j (b,{P' with dv:=v,dec:=L.map FR,dd:=ok}),rfl,by rw[List.length_set];exact hl,fun i b' Q hi=>?_⟩;rcases Bu hi with⟨rfl,e⟩|⟨hne,hi⟩
 ·injection e with e1 e2
  subst e1;obtain⟨P,hP,hx⟩:=h j b' P' hj;rw[if_neg (by omega)]at hx;subst hx;exact⟨P',hP,by rw[if_pos (by omega)];exact⟨v,_,ok,e2,.inr ⟨hd,L,hl10,hL,rfl⟩⟩⟩
 ·obtain⟨P,hP,hx⟩:=h i b' Q hi;refine⟨P,hP,?_⟩;by_cases h1:i<j
  ·rw[if_pos h1]at hx;rw[if_pos (by omega)];exact hx
  ·rw[if_neg h1]at hx;rw[if_neg (by omega)];exact hx
theorem CQ.keep{j:Nat}{G G':GmS}(h:CQ j G G'):G'.ps.length=G.ps.length/\G'.M=G.M/\G'.par=G.par/\G'.pv=G.pv/\∀(i b:Nat) (P':PrS),G'.ps[i]? =some (b,P')->∃P,G.ps[i]? =some (b,P)/\P'.L=P.L:=by
 obtain⟨ps',rfl,hl,h⟩:=h;refine⟨hl,rfl,rfl,rfl,fun i b P' hi=>?_⟩;obtain⟨P,hP,hx⟩:=h i b P' hi;refine⟨P,hP,?_⟩;by_cases h1:i<j
 ·rw[if_pos h1]at hx;obtain⟨v,d,ok,rfl,_⟩:=hx;rfl
 ·rw[if_neg h1]at hx;rw[hx]
def GoodG(G:GmS):Prop:=G.ps.length<=1000/\∀(i b:Nat) (P:PrS),G.ps[i]? =some (b,P)->P.L.length<=1000000/\∀x∈P.L,AW x.vote
def VB(Bs g:Nat)(k p:Int)(Inv:GmS->Prop)(G:GmS)(w:World)(e:Ending)(w':World):Prop:=
 Below Bs w w'/\(k=2->Cv w w')/\((e= .returned (.int .i64 0)/\∃G' G'',Inv G'/\CQ G'.ps.length G' G''/\Ax Bs w' g G'')∨(e= .returned (.int .i64 1)/\k≠2/\(k=1->p<0∨(G.ps.length:Int)<=p)/\Ax Bs w' g G))
def N0(Bs g:Nat)(k:Int)(Inv:GmS->Prop)(w:World)(e:Ending)(w':World):Prop:=
 e= .returned (.tuple #[])/\Below Bs w w'/\(k=2->Cv w w')/\∃G',Ax Bs w' g G'/\Inv G'
theorem QR{w:World}{base e size n:Nat}{v:Value}{xs:List Value}(h:w.ownsRow base e size v n xs):∃A c,v= .slice A n c:=BD h
theorem C7.decd{Bs b:Nat}{w w':World}{P:PrS}{v:Value}{d:List Ch}{ok:Bool}(h:C7 Bs w b P)(hw:w'=(w.setCell ⟨b,12,none⟩ v).setCell ⟨b,13,none⟩ (.bool ok))(ho:w.ownsRow Bs 88 9 v d.length (d.flatMap chc)):C7 Bs w' b {P with dv:=v,dec:=d,dd:=ok}/\w.grownBy w' (some b):=by
 have hg:w.grownBy w' (some b):=by
  rw[hw];exact(Bl (p:=⟨b,12,none⟩) (Al w b) rfl _).trans (Bl (p:=⟨b,13,none⟩) (Al _ b) rfl _)
 refine⟨⟨?_,BK h.row hg (.blk h.blk (by decide)),fun s hs=>(h.sgs s hs).off hg (.blk h.blk (by decide)),BK ho hg (.blk h.blk (by decide))⟩,hg⟩;rw[hw];exact(h.blk.put 12 v).put 13 _
theorem N1{Bs g:Nat}{w:World}{G:GmS}(s:Stp)(Inv:GmS->Prop)(h:Ax Bs w g G)(hBs:Bs<=w.heap.size)(hCW:G.ps.length<=20)(hA:s.kind=1->∀(p b:Nat) (P:PrS) (V:World),s.process=(p:Int)->G.ps[p]? =some (b,P)->Ax Bs V g G->Bs<=V.heap.size->Calls prog 39 #[At g,At b] V (N0 Bs g s.kind Inv V))(hM:s.kind=2->∀(V:World) (A:Option Addr) (n c:Nat),Ax Bs V g G->Bs<=V.heap.size->(CY s.procs G.ps.length).length=n->V.ownsRow Bs 98 1 (.slice A n c) n ((CY s.procs G.ps.length).map fun i=>At (G.bk i))->Calls prog 40 #[At g,.slice A n c] V (N0 Bs g s.kind Inv V))(hL:s.kind=3->∀(V:World) (A:Option Addr) (n c:Nat),Ax Bs V g G->Bs<=V.heap.size->(CY s.procs G.ps.length).length=n->V.ownsRow Bs 98 1 (.slice A n c) n ((CY s.procs G.ps.length).map fun i=>At (G.bk i))->Calls prog 42 #[At g,s.vote.val,.slice A n c] V fun e w'=>Below Bs V w'/\KSt V w'/\((e= .returned (.int .i64 1)/\Ax Bs w' g G)∨(e= .returned (.int .i64 0)/\∃G',Ax Bs w' g G'/\Inv G')))(hgd:∀G',Inv G'->GoodG G'):Calls prog 22 #[At g,s.val] w (VB Bs g s.kind s.process Inv G w):=by
 obtain⟨w1,hw1⟩:=Wr (w.alloc (.cells s.cells 48));have hb1:Wx w w1:=by rw[hw1];exact(AC _ _).alloc (AB _) _
 obtain⟨q,hq⟩:=Wr w.heap.size;have hQ1:Blk w1 q 48 s.cells:=by rw[hw1,hq];exact Blk.new w _ _
 have h1:Ax Bs w1 g G:=h.below hb1;have zE:Below Bs w w1:=hb1.mono hBs;have yE:Bs<=w1.heap.size:=AG hBs zE.size;obtain⟨kd,hkd⟩:=Ws s.kind;have y3:w1.cell? ⟨q,0,none⟩=some (.int .i64 kd):=by rw[<-hkd];exact hQ1.cell 0
 obtain⟨sp,hsp⟩:=Ws s.process;have y4:w1.cell? ⟨q,1,none⟩=some (.int .i64 sp):=by rw[<-hsp];exact hQ1.cell 1
 have y5:w1.cell? ⟨q,2,none⟩=some (.int .i64 s.procs):=hQ1.cell 2;rw[hkd,hsp]at hA;rw[hkd]at hM hL;rw[hkd,hsp];obtain⟨idx,hEu⟩:=Wr (CY s.procs G.ps.length);obtain⟨nI,hnI⟩:=Ws idx.length;have HCh:Hid (∀V,Wx w1 V->Calls prog 41 #[At g,.int .i64 s.procs] V fun e w'=>∃A c,e= .returned (.slice A nI c)/\Wx V w'/\w'.ownsRow Bs 98 1 (.slice A nI c) nI (idx.map fun i=>At (G.bk i))):=fun V hV=>by
  refine(Nz (h1.below hV) s.procs hCW).mono ?_;rintro e w' ⟨v,rfl,xB,hb⟩;rw[<-hEu,hnI]at xB;obtain⟨A,c,rfl⟩:=BD xB;exact⟨A,c,rfl,hb,BS xB (AG yE hV.size)⟩
 rw[<-hEu]at hM hL;have HA:=AA hA;have HM:=AA hM;have HL:=AA hL;have HG:=AA h;have HGe:=AA h1;have HGd:=AA hgd;have HW1:=AA hw1;have HQ:=AA hq;have HQ1:=AA hQ1;have HNI:=AA hnI;have hql:q<w1.heap.size:=hQ1.lt;have hbx:Wx w1 w1:=AC _ _;have HK1:Hid (kd=2->Cv w w1):=fun _=>(Cv.refl w).below hb1
 have HX:Hid (∀V,Blk V q 48 s.cells->AK V q 3 22=some s.vote.cells/\V.cell? ⟨q,2,none⟩=some (.int .i64 s.procs)):=fun V hV=>⟨s.row_vote hV,hV.cell 2⟩
 clear h hA hM hL hgd hw1 hq hQ1 h1 hb1 hkd hsp hEu hnI;go_enter func22,ntmps22;go_upto_region 3 with fail
 simp only[<-HW1.out,<-HQ.out];go_upto_block 0 with fail
 go_cut[5] (fun _ wx=>∃G',Ax Bs wx g G'/\Inv G'/\(kd=2->Cv w wx)/\Below Bs w wx)
 case first=>
  by_cases k1:kd=1
  ·subst k1;by_cases hp:sp<0∨(G.ps.length:Int)<=sp
   ·have HMb:=AA (QO HGe.out sp hp);have HG1:=HGe;have HPp:=AA hp;clear HCh HX hp HA HM HL;go_wp2_with (go_at_call 20;refine HMb.out.mono ?_;rintro en w2 ⟨rfl,hw2⟩;replace hw2:=hw2.symm;subst hw2)
    go_ret;exact⟨zE,HK1.out,.inr ⟨rfl,by omega,fun _=>HPp.out,HG1.out⟩⟩
   obtain⟨p,rfl⟩:∃p:Nat,sp=(p:Int):=⟨sp.toNat,by omega⟩;obtain⟨⟨b,P⟩,hP⟩:∃x,G.ps[p]? =some x:=⟨_,AE (by omega)⟩;obtain⟨pb,pc,_,y1,y2,hpn⟩:=HGe.out.pcells hP;obtain⟨n,hn⟩:=Wr G.ps.length;rw[<-hn]at y1 hpn;have HMb:=AA (Gl HGe.out hP);have HAc:Hid (∀V,Wx w1 V->Calls prog 39 #[At g,At b] V (N0 Bs g 1 Inv V)):=fun V hV=>HA.out rfl p b P V rfl hP (HGe.out.below hV) (AG yE hV.size)
   have hpi:(p:Int)<(n:Int):=by omega
   have dm:decide ((P.mem:Int)<0)=false:=by simp
   clear HCh HX hp hP hn hpn HA HM HL;go_upto_region 8 with(go_at_call 20;refine HMb.out.mono ?_;rintro en w2 ⟨rfl,hw2⟩;replace hw2:=hw2.symm;subst hw2)
   go_still_tail 9,(by kernel_rfl);change wpList _ _ _ _ _ w1.drew;go_wp2_with (go_at_call 39;refine(HAc.out _ (AC w1.heap.size w1).drew).mono ?_;rintro en w4 ⟨rfl,hb4,_,G4,hG4,hI4⟩;have HG4:=AA hG4;have HI4:=AA hI4;clear hG4 hI4)
   go_meet;exact⟨G4,HG4.out,HI4.out,fun e=>(by omega),(zE.trans (AC _ _).drew).trans hb4⟩
  by_cases k2:kd=2
  ·subst k2;have HM1:=AA (HM.out rfl);clear HX HA HL HM k1;go_upto_region 10 with fail
   go_wp2_with (first
    |(go_at_call 41;refine(HCh.out _ hbx).mono ?_;rintro en w2 ⟨A,c,rfl,hb2,hr2⟩;have xU:=hbx.trans hb2;have HR2:=AA hr2;clear hr2)
    |(go_at_call 40;refine(HM1.out _ A nI c (HGe.out.below xU) (AG yE xU.size) HNI.out HR2.out).mono ?_;rintro en w3 ⟨rfl,hb3,hk3,G3,hG3,hI3⟩;have HG3:=AA hG3;have HI3:=AA hI3;have HK3:=AA hk3;clear hG3 hI3 hk3)
    |fail)
   go_meet;exact⟨G3,HG3.out,HI3.out,fun e=>((HK1.out e).below xU).trans (HK3.out e),(zE.trans (xU.mono yE)).trans hb3⟩
  by_cases k3:kd=3
  ·subst k3;have HL1:=AA (HL.out rfl);clear HA HM HL k1 k2;go_upto_region 12 with fail
   refine rgD (fun V=>AK V q 3 22=some s.vote.cells/\V.cell? ⟨q,2,none⟩=some (.int .i64 s.procs)) (HX.out _ HQ1.out) fun _=>?_
   iterate 6 (refine tkA ?_;go_frame)
   refine rd1 6 fun K hK=>?_
   go_simp;refine(HCh.out _ (AC w1.heap.size w1).drew).mono ?_;rintro en w2 ⟨A,c,rfl,hb2,hr2⟩;have xU:Wx w1 w2:=((AC w1.heap.size w1).drew).trans (hb2.mono (Below.size (AC w1.heap.size w1).drew));have HR2:=AA hr2;have hQ2:=HQ1.out.below xU hql;have HQ2:=AA hQ2;clear hr2 hQ2;go_wp2_with fail
   refine hK.out _ _ (HX.out _ HQ2.out) (fun _=>?_);clear hK K;try go_frame
   refine rd1 7 fun K hK=>?_
   go_simp;refine(HL1.out _ A nI c (HGe.out.below xU) (AG yE xU.size) HNI.out HR2.out).mono ?_;rintro en w3 ⟨hb3,hk3,hx3⟩;obtain⟨x,rfl,hx4⟩:∃x:Int,en= .returned (.int .i64 x)/\((x=1/\Ax Bs w3 g G)∨(x=0/\∃G',Ax Bs w3 g G'/\Inv G')):=(hx3.elim (fun h=>⟨1,h.1,.inl ⟨rfl,h.2⟩⟩) (fun h=>⟨0,h.1,.inr ⟨rfl,h.2⟩⟩));have HX3:=AA hx4;have HQ3:=AA (hk3 q _ HQ2.out);clear hx3 hx4 hk3;go_wp2_with fail
   refine hK.out _ _ (HX.out _ HQ3.out) (fun _=>?_);clear hK K;try go_frame
   refine tkD 5 8 ?_;go_frame;refine dnD ?_;have xd:Below Bs w w3:=(zE.trans (xU.mono yE)).trans hb3;have hx:=HX3.out;clear HX3;rcases hx with⟨rfl,hG3⟩|⟨rfl,hG3⟩
   ·have HG3:=AA hG3;clear hG3;go_wp2;go_ret;exact⟨xd,fun e=>(by omega),.inr ⟨rfl,by omega,fun e=>(by omega),HG3.out⟩⟩
   ·have HG3:=AA hG3;clear hG3;go_wp2;go_meet;obtain⟨G',h1,h2⟩:=HG3.out;exact⟨G',h1,h2,fun e=>(by omega),xd⟩
  have e1:(kd==1)=false:=by simpa using k1
  have e2:(kd==2)=false:=by simpa using k2
  have e3:(kd==3)=false:=by simpa using k3
  clear HCh HX HA HM HL;go_wp2;go_ret;exact⟨zE,HK1.out,.inr ⟨rfl,k2,fun e=>absurd e k1,HGe.out⟩⟩
 case rest=>
  clear HCh HX HA HM HL HK1 HQ1 HGe HG y3 y4 y5;obtain⟨G3,hG3,hI3,hK3,xd⟩:=hcut;generalize wc=w3 at*;have zj:Bs<=w3.heap.size:=AG hBs xd.size;obtain⟨A3,pc3,hDu⟩:=QR hG3.prow;obtain⟨n3,hn3⟩:=Wr G3.ps.length;rw[<-hn3]at hDu;have y1:w3.cell? ⟨g,11,none⟩=some (.slice A3 n3 pc3):=by rw[<-hDu];exact hG3.blk.cell 11
  have HGo:=AA (HGd.out G3 hI3);have hn31:n3<=1000:=by rw[hn3];exact HGo.out.1
  obtain⟨M,hM⟩:=Wr G3.M;obtain⟨par,zJ⟩:=Wr G3.par;have HG3:=AA hG3;have HI3:=AA hI3;have HN3:=AA hn3;have HM:=AA hM;have HPa:=AA zJ;have HPv:=AA hDu;have HK3:=AA hK3;clear hG3 hI3 hK3 hn3 hM zJ hDu;go_wp2
  go_loopw [57] (fun iv wr=>∃(j:Nat) (G':GmS),iv= .int .i64 (j:Int)/\j<=n3/\Ax Bs wr g G'/\CQ j G3 G'/\(kd=2->Cv w wr)/\Below Bs w3 wr) (fun iv _=>n3-(intOf iv).toNat)
  case atStart=>exact⟨0,G3,rfl,Nat.zero_le _,HG3.out,CQ.zero G3,HK3.out,AC _ _⟩
  case round=>
   obtain⟨j,G4,rfl,hjn,hG4,hT4,hK4,hDv⟩:=hrel;have HK4:=AA hK4;clear hK4 HK3;have yW:Below Bs w wr:=xd.trans hDv;have yS:Bs<=wr.heap.size:=AG hBs yW.size;by_cases hj:j<n3
   ·have dj:=Wu (show j<n3 by omega)
    obtain⟨e1,e2,e3,e4,e5⟩:=hT4.keep;obtain⟨⟨b4,P4⟩,hP4⟩:∃x,G4.ps[j]? =some x:=⟨_,AE (by rw[e1,<-HN3.out];exact hj)⟩;obtain⟨pb,pc,hpv,z1,z2,_⟩:=hG4.pcells hP4;rw[e4,HPv.out]at hpv;injection hpv with hpv hq1 hq2
    subst hpv;clear z1 hq1 hq2;have z3:wr.cell? ⟨b4,13,none⟩=some (.bool P4.dd):=(hG4.prs _ _ hP4).1.blk.cell 13;have hEL:P4.L.length<=1000000/\∀x∈P4.L,AW x.vote:=by
     obtain⟨P,hP,hL⟩:=e5 j b4 P4 hP4;rw[hL];exact HGo.out.2 j b4 P hP
    have HG4:=AA hG4;have HT4:=AA hT4;have HP4:=AA hP4;have hC1:=AA hEL;have HE:=AA (And.intro e2 e3);obtain⟨d,hd⟩:=Wr P4.dd;rw[<-hd]at z3;have HD:=AA hd;clear hG4 hT4 hP4 hEL e1 e2 e3 e4 e5 hd;go_upto_region 18 with fail
    cases d with
    |true=>
     go_wp2;go_roundw
     case rel=>exact⟨j+1,G4,by go_num,by omega,HG4.out,HT4.out.stay HP4.out HD.out.symm,HK4.out,hDv⟩
     case measure=>simp[intOf];omega
    |false=>
     obtain⟨w4,hw4⟩:=Wr wr;rw[<-hw4]at HG4 HK4 hDv yW yS z2 z3 ⊢;clear hw4;obtain⟨D,hD⟩:=Wr P4.D;have hDl:D.length<=1000000:=by
      rw[hD];show((Cc _).map _).length<=_;rw[Ab];have:=FF (P4.L.map Sg.vs);rw[Ab]at this;have:=hC1.out.1;omega
     have HVt:Hid (∀V,Wx w4 V->Calls prog 44 #[At b4] V (El V D)):=fun V hV=>by rw[hD];exact Gi ((HG4.out.below hV).prs _ _ HP4.out).1 hC1.out.1
     have HDc:Hid (∀V A c',Wx w4 V->Rd V V.heap.size A (D.flatMap vtc)->Calls prog 43 #[.int .i64 M,par.val,.slice A D.length c'] V (Mj M par D V)):=fun V A c' hV hR=>QP M par A D.length c' D V rfl hR hDl (by rw[hD];exact PrS.D_valid hC1.out.2)
     have HX:Hid (∀V,Wx w4 V->V.cell? ⟨g,0,none⟩=some (.int .i64 M)/\AK V g 2 8=some par.cells):=fun V hV=>by
      rw[HM.out,HPa.out,<-HE.out.1,<-HE.out.2];exact⟨(HG4.out.below hV).blk.cell 0,(HG4.out.below hV).row_par⟩
     have HDe:=AA hD;clear hD;go_upto_region 19 with fail
     refine rgD (fun V=>V.cell? ⟨g,0,none⟩=some (.int .i64 M)/\AK V g 2 8=some par.cells) (HX.out _ (AC w4.heap.size w4).drew) fun _=>?_
     iterate 11 (refine tkA ?_;go_frame)
     refine rd1 11 fun K hK=>?_
     go_simp;refine(HVt.out _ (AC w4.heap.size w4).drew).mono ?_;rintro en w5 ⟨v5,rfl,hb5,xW⟩;obtain⟨A5,c5,rfl,hR5⟩:=Bg xW;have HR5:=AA hR5;have xf:Wx w4 w5:=((AC w4.heap.size w4).drew).trans (hb5.mono (Below.size (AC w4.heap.size w4).drew));clear xW hR5 hb5;go_wp2_with fail
     refine hK.out _ _ (HX.out _ xf) (fun _=>?_);clear hK K;try go_frame
     refine rd1 12 fun K hK=>?_
     go_simp;refine(HDc.out w5 A5 c5 xf HR5.out).mono ?_;rintro en w6 ⟨v6,L,ok,rfl,xn,hb6,hL10,hCX⟩;obtain⟨A6,c6,rfl,hR6⟩:=Bg xn;have HR6:=AA hR6;have HDec:=AA hCX;have yB:Wx w4 w6:=xf.trans (hb6.mono xf.size);clear xn hR6 hb6 hCX;go_wp2_with fail
     refine hK.out _ _ (HX.out _ yB) (fun _=>?_);clear hK K;try go_frame
     iterate 5 (refine tkA ?_;go_frame)
     refine dnD ?_;obtain⟨m,hm⟩:=Ws L.length;have HCh:=AA (Tc A6 m c6 L w6 hm HR6.out (by omega));rw[hm];have HMl:=AA hm;have hG6:=HG4.out.below yB;have HG6:=AA hG6;have hBD:Bs<=w6.heap.size:=AG yS yB.size;clear hm hG6;go_upto_region 21 with(go_at_call 45;refine HCh.out.mono ?_;rintro en w7 ⟨v7,rfl,xE,hb7⟩;have hP7:=(HG6.out.below hb7).prs _ _ HP4.out;have k1:w7.cell? ⟨b4,12,none⟩=some P4.dv:=hP7.1.blk.cell 12;have k2:w7.frozen? ⟨b4,12,none⟩=false:=hP7.1.blk.frozen 12;have k3:w7.cell? ⟨b4,13,none⟩=some (.bool P4.dd):=hP7.1.blk.cell 13;have k4:w7.frozen? ⟨b4,13,none⟩=false:=hP7.1.blk.frozen 13;obtain⟨A7,c7,rfl⟩:=BD xE;have xO:=AA xE;have HP7:=AA hP7;clear xE hP7)
     have hBa:Bs<=b4:=HP7.out.2;have hd7:=HP7.out.1.decd (v:=.slice A7 (L.map FR).length c7) (d:=L.map FR) (ok:=ok) rfl (BS (by simpa using xO.out) hBD);have hG7:=(HG6.out.below hb7).setP HP4.out hd7.2 hd7.1;have hCj:=((hDv.trans (yB.mono yS)).trans (hb7.mono hBD)).grown hd7.2 (AG hBD hb7.size) (Wt hBa);have hT7:CQ (j+1) G3 _:=HT4.out.turn (v:=.slice A7 (L.map FR).length c7) (L:=L) (ok:=ok) HP4.out HD.out.symm (by rw[<-HM.out,<-HPa.out,<-HDe.out];exact HDec.out) hL10;have HG7:=AA hG7;have HT7:=AA hT7;have HK7:Hid (kd=2->Cv w _):=fun e=>(((HK4.out e).below yB).below hb7).off hd7.2 HP7.out.1.blk
     clear hG7 hT7 hd7;go_wp2;go_roundw
     case rel=>exact⟨j+1,_,by go_num,by omega,by simpa using HG7.out,by simpa using HT7.out,by simpa using HK7.out,by simpa using hCj⟩
     case measure=>simp[intOf];omega
   ·have dj:=Wv (show n3<=j by omega)
    have hDM:j=G3.ps.length:=by rw[<-HN3.out];omega
    have HT4:Hid (CQ G3.ps.length G3 G4):=by unfold Hid;rw[<-hDM];exact hT4
    have HG4:=AA hG4;clear hT4 hG4 hDM;go_wp2;go_ret;exact⟨yW,HK4.out,.inl ⟨rfl,G3,G4,HI3.out,HT4.out,HG4.out⟩⟩
end
end Go.Proofs.YtadllffeoibelaaGreat
