/-
  What these parts of the proof come to, functions walked and plain laws: GmMeet, GmDo. No condition.
-/
import Derived.Test.YtadllffeoibelaaGreatS44
import Derived.Test.YtadllffeoibelaaGreatS41
import Derived.Test.YtadllffeoibelaaGreatS43
import Derived.Deep.DeepCutAuto
import Derived.Deep.CutBlock
import Derived.StillTailTactics
import Derived.Test.YtadllffeoibelaaGreatS6
namespace Go.Proofs.YtadllffeoibelaaGreat
set_option maxRecDepth 100000
set_option maxHeartbeats 32000000
set_option linter.all false
section
open Go.RowKit
attribute [local go_sem ↓] Go.wp_at_zero Go.wp_at_succ An Au Av Aw
attribute [local go_sem] BD BH BI BJ AN AW AQ
def GmS.PL(G:GmS)(i:Nat):List Sg:=(G.ps.map (·.2.L)).getD i []
theorem GmS.PL_of{G:GmS}{i b:Nat}{P:PrS}(h:G.ps[i]? =some (b,P)):G.PL i=P.L:=by
 unfold GmS.PL;rw[List.getD_eq_getElem?_getD,AU,h];rfl
def GmS.all(G:GmS)(idx:List Nat):List Sg:=idx.flatMap G.PL
def EC(X:List VS)(idx:List Nat)(k:Nat)(G G':GmS):Prop:=∃ps',G'={G with ps:=ps'}∧ps'.length=G.ps.length∧∀(i b:Nat) (P':PrS),ps'[i]? =some (b,P')→∃P,G.ps[i]? =some (b,P)∧((i∈idx.take k∧∃v L,P'=P.more v L∧L.map Sg.vs=CD (P.L.map Sg.vs++X))∨(¬i∈idx.take k∧P'=P))
abbrev GA(idx:List Nat)(k:Nat)(G G':GmS):Prop:=EC ((G.all idx).map Sg.vs) idx k G G'
theorem Nx{α β:Type}(f:α→List β)(c:Nat):∀l:List α,(∀x∈l,(f x).length≤c)→(l.flatMap f).length≤l.length*c
 |[],_=>by simp
 |a::l,h=>by
  have h1:=Nx f c l (fun x hx=>h x (List.mem_cons_of_mem _ hx));have h2:=h a BB;rw[List.flatMap_cons,AI,Af,Nat.add_mul];omega
theorem EC.zero(X:List VS)(idx:List Nat)(G:GmS):EC X idx 0 G G:=⟨G.ps,rfl,rfl,fun i b P' h=>⟨P',h,.inr ⟨by simp,rfl⟩⟩⟩
theorem EC.old{X:List VS}{idx:List Nat}{k i:Nat}{G G':GmS}(hnd:idx.Nodup)(hk:idx[k]? =some i)(h:EC X idx k G G'){b:Nat}{P':PrS}(hi:G'.ps[i]? =some (b,P')):G.ps[i]? =some (b,P'):=by
 obtain⟨ps',rfl,hl,h⟩:=h;obtain⟨P,hP,⟨h1,_⟩|⟨_,rfl⟩⟩:=h i b P' hi
 ·exfalso;obtain⟨j,hj⟩:=List.getElem?_of_mem h1;have hjk:=(AG.1 hj).1;rw[AZ]at hjk;rw[Bf,if_pos (by omega)]at hj;have hkl:=(AG.1 hk).1;have:=(List.getElem?_inj (i:=j) (j:=k) (by omega) hnd).1 (by rw[hj,hk]);omega
 ·exact hP
theorem EC.turn{X:List VS}{idx:List Nat}{k i b:Nat}{G G':GmS}{P:PrS}{v:Value}{L:List Sg}(hnd:idx.Nodup)(hk:idx[k]? =some i)(h:EC X idx k G G')(hi:G'.ps[i]? =some (b,P))(hL:L.map Sg.vs=CD (P.L.map Sg.vs++X)):EC X idx (k+1) G (G'.setP i b (P.more v L)):=by
 have ho:=h.old hnd hk hi;obtain⟨ps',rfl,hl,h⟩:=h;refine⟨ps'.set i (b,P.more v L),rfl,by rw[List.length_set];exact hl,fun j b' Q hj=>?_⟩;have hmem:∀j,j∈idx.take (k+1)↔j∈idx.take k∨j=i:=fun j=>by
  rw[Ag,hk,BE,AP,AR]
 rcases Bv hj with⟨rfl,e⟩|⟨hne,hj⟩
 ·injection e with e1 e2
  subst e1;exact⟨P,ho,.inl ⟨(hmem i).2 (.inr rfl),v,L,e2,hL⟩⟩
 ·obtain⟨P0,hP,hx⟩:=h j b' Q hj;refine⟨P0,hP,hx.imp (fun hx=>⟨(hmem j).2 (.inl hx.1),hx.2⟩) (fun hx=>⟨fun hc=>?_,hx.2⟩)⟩;rcases(hmem j).1 hc with hc|hc
  ·exact hx.1 hc
  ·exact hne hc.symm
theorem GmS.all_take{G:GmS}{idx:List Nat}{k i:Nat}(h:idx[k]? =some i):G.all (idx.take (k+1))=G.all (idx.take k)++G.PL i:=by
 unfold GmS.all;rw[Ag,h,BE,Ad,List.flatMap_singleton]
def KSt(w w':World):Prop:=∀(b:Nat) (cs:Array Value),Blk w b 48 cs→Blk w' b 48 cs
def CR(w w':World):Prop:=∀(b t:Nat) (cs:Array Value),t≠97→Blk w b t cs→Blk w' b t cs
theorem CR.below{w w1 w2:World}(h:CR w w1)(hb:Below w1.heap.size w1 w2):CR w w2:=fun b t cs ht hB=>(h b t cs ht hB).below hb (h b t cs ht hB).lt
theorem CR.off{w w1 w2:World}{k:Nat}{cs':Array Value}(h:CR w w1)(hg:w1.grownBy w2 (some k))(hk:Blk w1 k 97 cs'):CR w w2:=fun b t cs ht hB=>(h b t cs ht hB).off hg (.blk hk (fun e=>ht e.symm))
theorem CR.refl(w:World):CR w w:=fun _ _ _ _ h=>h
theorem CR.trans{w w1 w2:World}(h:CR w w1)(h':CR w1 w2):CR w w2:=fun b t cs ht hB=>h' b t cs ht (h b t cs ht hB)
theorem Qn{Bs g:Nat}{w:World}{G:GmS}(h:A9 Bs w g G)(hBs:Bs≤w.heap.size)(idx:List Nat)(hnd:idx.Nodup)(hlt:∀i∈idx,i<G.ps.length)(hl20:idx.length≤20)(hsm:∀(i b:Nat) (P:PrS),G.ps[i]? =some (b,P)→P.L.length≤25000)(A:Option Addr)(n c:Nat)(hn:idx.length=n)(hr:w.ownsRow Bs 98 1 (.slice A n c) n (idx.map fun i=>Am (G.bk i))):Calls Tryz.prog 40 #[Am g,.slice A n c] w fun e w'=>e= .returned (.tuple #[])∧Below Bs w w'∧CR w w'∧∃G',A9 Bs w' g G'∧GA idx n G G':=by
 have HP:Hid (∀k i,idx[k]? =some i→∃b P,G.ps[i]? =some (b,P)∧G.bk i=b∧G.PL i=P.L∧P.L.length≤25000):=fun k i hk=>by
  obtain⟨⟨b,P⟩,hp⟩:∃x,G.ps[i]? =some x:=⟨_,AE (hlt i (AM hk))⟩;exact⟨b,P,hp,GmS.bk_of hp,GmS.PL_of hp,hsm i b P hp⟩
 have HA:Hid (∀k i,idx[k]? =some i→∃ab,A=some ⟨ab,0,none⟩∧∀V:World,V.ownsRow Bs 98 1 (.slice A n c) n (idx.map fun i=>Am (G.bk i))→V.cell? ⟨ab,k,none⟩=some (Am (G.bk i))):=fun k i hk=>by
  have key:∀V:World,V.ownsRow Bs 98 1 (.slice A n c) n (idx.map fun i=>Am (G.bk i))→∃ab,A=some ⟨ab,0,none⟩∧V.cell? ⟨ab,k,none⟩=some (Am (G.bk i)):=fun V hV=>by
   obtain⟨ab,ac,hv,hcell,_,_⟩:=CF (i:=k) (u:=Am (G.bk i)) hV (by rw[AU,hk];rfl);injection hv with hv _ _
   exact⟨ab,hv,hcell⟩
  obtain⟨ab,e,_⟩:=key w hr;refine⟨ab,e,fun V hV=>?_⟩;obtain⟨ab',e',hc⟩:=key V hV;rw[e]at e';injection e' with e'
  injection e' with e'
  rw[e'];exact hc
 have hal:∀k,(G.all (idx.take k)).length≤500000:=fun k=>by
  have:=Nx G.PL 25000 (idx.take k) (fun i hi=>by
   obtain⟨j,hj⟩:=List.getElem?_of_mem (List.mem_of_mem_take hi);obtain⟨b,P,_,_,e,hl⟩:=HP.out j i hj;rw[e];exact hl)
  unfold GmS.all;have h2:(idx.take k).length≤20:=by rw[AZ];omega
  omega
 have HSg:Hid (∀s∈G.all idx,Bj w Bs s):=fun s hs=>by
  obtain⟨i,hi,hs⟩:=List.mem_flatMap.1 hs;obtain⟨j,hj⟩:=List.getElem?_of_mem hi;obtain⟨b,P,hp,_,e,_⟩:=HP.out j i hj;rw[e]at hs;exact(h.prs _ _ hp).1.sgs s hs
 have HG:=AA h;have HR:=AA hr;have HN:=AA hn;have HNd:=AA hnd;have HAl:=AA hal;clear h hr hsm hlt hnd hal;go_enter Tryz.func40,Tryz.ntmps40;go_wp2
 go_loopw [4,11] (fun v iv wr=>∃k:Nat,iv= .int .i64 (k:Int)∧k≤n∧wr.ownsRow w.heap.size 62 23 v (G.all (idx.take k)).length ((G.all (idx.take k)).flatMap sgc)∧Below w.heap.size w wr) (fun _ iv _=>n-(intOf iv).toNat)
 case atStart=>exact⟨0,rfl,Nat.zero_le _,⟨by simp[GmS.all],.inl ⟨rfl,rfl⟩⟩,AC _ _⟩
 case round=>
  obtain⟨k,rfl,hkn,hown,hb⟩:=hrel;have HOwn:=AA hown;clear hown;by_cases hk:k<n
  ·have dk:decide ((k:Int)<(n:Int))=true:=by simp;omega
   obtain⟨i,hi⟩:∃i,idx[k]? =some i:=⟨_,AE (by rw[HN.out];exact hk)⟩;obtain⟨b,P,hp,hbk,hPL,hPl⟩:=HP.out k i hi;obtain⟨ab,rfl,hc⟩:=HA.out k i hi;have x1:wr.cell? ⟨ab,k,none⟩=some (Am b):=by rw[←hbk];exact hc wr (BA HR.out hb (AB _))
   have hPA:=((HG.out.below hb).prs _ _ hp).1;obtain⟨A1,c1,hv1,hR1⟩:=BY hPA.row;have x2:wr.cell? ⟨b,0,none⟩=some (.slice A1 P.L.length c1):=by rw[←hv1];exact hPA.blk.cell 0
   obtain⟨m,hm⟩:∃m,P.L.length=m:=⟨_,rfl⟩;rw[hm]at x2 hPl;obtain⟨Lk,hLk⟩:∃Lk,Lk=G.all (idx.take k):=⟨_,rfl⟩;have hLl:Lk.length≤500000:=by rw[hLk];exact HAl.out k
   have HOwnK:Hid (wr.ownsRow w.heap.size 62 23 u4 Lk.length (Lk.flatMap sgc)):=by rw[hLk];exact HOwn.out
   have HLn:Hid (G.all (idx.take (k+1))=Lk++P.L):=by unfold Hid;rw[GmS.all_take hi,hPL,hLk]
   have HR1:=AA hR1;have HM:=AA hm;clear hi hp hbk hPL hc hPA hv1 hR1 hm hLk HOwn;go_wp2_with ((at_builtin;refine Aq rfl (.tmp 15) (.tmp 20) _ rfl w.heap.size 62 (.agg BK) 23 88 Tryz.underlying50 C6 rfl (by decide) u4 Lk.length (Lk.flatMap sgc) rfl HOwnK.out wr.heap.size A1 m c1 (P.L.flatMap sgc) rfl (by rw[AX sgc 23 P.L (CM P.L),HM.out]) HR1.out (fun u hu=>by obtain⟨s,_,hs⟩:=List.mem_flatMap.1 hu;exact s.one u hs) (by omega) (by unfold maxLen;omega) hb.size ?_;intro v7 w7 hown7 hg7 hat7))
   have hb7:=BL hb HOwnK.out hg7;have HOwn7:Hid (w7.ownsRow w.heap.size 62 23 v7 (G.all (idx.take (k+1))).length ((G.all (idx.take (k+1))).flatMap sgc)):=by
    unfold Hid;rw[HLn.out,AI,Ad,HM.out];exact hown7
   clear hown7 hg7 hat7;go_wp2;go_roundw
   case rel=>exact⟨k+1,by go_num,by omega,HOwn7.out,hb7⟩
   case measure=>simp[intOf];omega
  ·have dk:decide ((k:Int)<(n:Int))=false:=by simp;omega
   have hal:=HAl.out k;have e:idx.take k=idx:=AT (by rw[HN.out];omega);rw[e]at hal;have HOwn2:Hid (wr.ownsRow w.heap.size 62 23 u4 (G.all idx).length ((G.all idx).flatMap sgc)):=by have h2:=HOwn.out;rw[e]at h2;exact h2
   clear HOwn e;obtain⟨LA,hLA⟩:∃LA,LA=G.all idx:=⟨_,rfl⟩;rw[←hLA]at hal HOwn2;obtain⟨AL,cL,hvL⟩:=Ar HOwn2.out;obtain⟨nL,hnL⟩:∃nL,LA.length=nL:=⟨_,rfl⟩;rw[hnL]at hvL hal;subst hvL;have HLA:=AA hLA;have HNL:=AA hnL;have hbB:Below Bs w wr:=hb.mono hBs;have HK0:=AA ((CR.refl w).below hb);have hG0:=HG.out.below hb;have hR0:wr.ownsRow Bs 98 1 (.slice A n c) n (idx.map fun i=>Am (G.bk i)):=BA HR.out hb (AB _);have hO0:wr.ownsRow Bs 62 23 (.slice AL nL cL) nL (LA.flatMap sgc):=by
    have h2:=BF HOwn2.out hBs;rwa[HNL.out]at h2
   have hS0:∀s∈LA,Bj wr Bs s:=fun s hs=>(HSg.out s (by rw[←HLA.out];exact hs)).below hb (AB _)
   have HG0:=AA hG0;have HR0:=AA hR0;have HO0:=AA hO0;have HS0:=AA hS0;clear hLA hnL hG0 hR0 hO0 hS0 HOwn2;go_wp2
   go_loopw [25] (fun iv wr=>∃(k:Nat) (G':GmS),iv= .int .i64 (k:Int)∧k≤n∧A9 Bs wr g G'∧GA idx k G G'∧wr.ownsRow Bs 98 1 (.slice A n c) n (idx.map fun i=>Am (G.bk i))∧wr.ownsRow Bs 62 23 (.slice AL nL cL) nL (LA.flatMap sgc)∧(∀s∈LA,Bj wr Bs s)∧CR w wr∧Below Bs w wr) (fun iv _=>n-(intOf iv).toNat)
   case atStart=>exact⟨0,G,rfl,Nat.zero_le _,HG0.out,EC.zero _ idx G,HR0.out,HO0.out,HS0.out,HK0.out,hbB⟩
   case round=>
    clear HG0 HR0 HO0 HS0 HK0 hbB hb;obtain⟨k,G4,rfl,hkn,hG4,hT4,hR4,hO4,hS4,hK4,hb4⟩:=hrel;by_cases hk:k<n
    ·have dk:decide ((k:Int)<(n:Int))=true:=by simp;omega
     obtain⟨i,hi⟩:∃i,idx[k]? =some i:=⟨_,AE (by rw[HN.out];exact hk)⟩;obtain⟨b,P,hp,hbk,hPL,hPl⟩:=HP.out k i hi;obtain⟨ab,rfl,hc⟩:=HA.out k i hi;have x1:wr.cell? ⟨ab,k,none⟩=some (Am b):=by rw[←hbk];exact hc wr hR4
     have hp4:G4.ps[i]? =some (b,P):=by
      obtain⟨⟨b4,P4⟩,h4⟩:∃x,G4.ps[i]? =some x:=⟨_,AE (by
       obtain⟨ps',rfl,hl,_⟩:=hT4;show i<ps'.length;rw[hl];exact(AG.1 hp).1)⟩
      have:=hT4.old HNd.out hi h4;rw[hp]at this;rw[this]at*;exact h4
     have hBs4:Bs≤wr.heap.size:=AF hBs hb4.size;have HAdd:=AA (Ki (hG4.prs _ _ hp4).1 hBs4 AL nL cL LA HNL.out (Rd.of_own hO4) (fun s hs=>(hS4 s hs).ok) (by have:P.L.length≤25000:=hPl;show P.L.length+nL≤_;omega));have hPb:=(hG4.prs _ _ hp4).1.blk;have hbB4:=(hG4.prs _ _ hp4).2;have HI:=AA hi;have HG4:=AA hG4;have HT4:=AA hT4;have HR4:=AA hR4;have HO4:=AA hO4;have HS4:=AA hS4;have HP4:=AA hp4;have HPb:=AA hPb;have HK4:=AA hK4;clear hi hp hbk hPL hPl hc hG4 hT4 hR4 hO4 hS4 hp4 hPb hK4;go_wp2_with (go_at_call 76;refine HAdd.out.mono ?_;rintro en w7 ⟨v7,L7,rfl,hP7,hL7,hg7⟩)
     have HG7:=AA (HG4.out.setP HP4.out hg7 hP7);have HT7:=AA (HT4.out.turn (v:=v7) (L:=L7) HNd.out HI.out HP4.out (by rw[←HLA.out,←Ac];exact hL7));have HR7:=AA (BO HR4.out hg7 (.blk HPb.out (by decide)));have HO7:=AA (BO HO4.out hg7 (.blk HPb.out (by decide)));have HS7:Hid (∀s∈LA,Bj w7 Bs s):=fun s hs=>(HS4.out s hs).off hg7 (.blk HPb.out (by decide))
     have HK7:=AA (HK4.out.off hg7 HPb.out);have hb7:Below Bs w w7:=hb4.grown hg7 hBs4 (fun j hj=>by injection hj with hj;subst hj;exact hbB4);clear hP7 hL7 hg7 HAdd;go_wp2;go_roundw
     case rel=>exact⟨k+1,_,by go_num,by omega,HG7.out,HT7.out,HR7.out,HO7.out,HS7.out,HK7.out,hb7⟩
     case measure=>simp[intOf];omega
    ·have dk:decide ((k:Int)<(n:Int))=false:=by simp;omega
     have e:k=n:=by omega
     have HT5:Hid (GA idx n G G4):=by rw[←e];exact hT4
     have HG5:=AA hG4;have HK5:=AA hK4;clear hG4 hT4 hR4 hO4 hS4 hK4 e;go_wp2;go_end0;exact⟨rfl,hb4,HK5.out,G4,HG5.out,HT5.out⟩
def UF(G:GmS)(P P':PrS):Prop:=∃(v:Value) (d:List Ch) (ok:Bool),P'={P with dv:=v,dec:=d,dd:=ok}∧((P.dd=true∧P'=P)∨(P.dd=false∧∃L,L.length≤10∧Oy G.M G.par P.D L ok∧d=L.map Eo))
def C4(j:Nat)(G G':GmS):Prop:=∃ps',G'={G with ps:=ps'}∧ps'.length=G.ps.length∧∀(i b:Nat) (P':PrS),ps'[i]? =some (b,P')→∃P,G.ps[i]? =some (b,P)∧(if i<j then UF G P P' else P'=P)
theorem C4.zero(G:GmS):C4 0 G G:=⟨G.ps,rfl,rfl,fun i b P' h=>⟨P',h,by rw[if_neg (by omega)]⟩⟩
theorem C4.stay{j b:Nat}{G G':GmS}{P':PrS}(h:C4 j G G')(hj:G'.ps[j]? =some (b,P'))(hd:P'.dd=true):C4 (j+1) G G':=by
 obtain⟨ps',rfl,hl,h⟩:=h;refine⟨ps',rfl,hl,fun i b' Q hi=>?_⟩;obtain⟨P,hP,hx⟩:=h i b' Q hi;refine⟨P,hP,?_⟩;by_cases h1:i<j
 ·rw[if_pos h1]at hx;rw[if_pos (by omega)];exact hx
 ·rw[if_neg h1]at hx;by_cases h2:i=j
  ·subst h2;rw[show({G with ps:=ps'}:GmS).ps=ps' from rfl,hi]at hj;injection hj with hj
   injection hj with hj hj'
   subst hj';rw[if_pos (by omega)];subst hx;exact⟨_,_,_,rfl,.inl ⟨hd,rfl⟩⟩
  ·rw[if_neg (by omega)];exact hx
theorem C4.turn{j b:Nat}{G G':GmS}{P':PrS}{v:Value}{L:List Oc}{ok:Bool}(h:C4 j G G')(hj:G'.ps[j]? =some (b,P'))(hd:P'.dd=false)(hL:Oy G.M G.par P'.D L ok)(hl10:L.length≤10):C4 (j+1) G (G'.setP j b {P' with dv:=v,dec:=L.map Eo,dd:=ok}):=by
 obtain⟨ps',rfl,hl,h⟩:=h;refine⟨ps'.set j (b,{P' with dv:=v,dec:=L.map Eo,dd:=ok}),rfl,by rw[List.length_set];exact hl,fun i b' Q hi=>?_⟩;rcases Bv hi with⟨rfl,e⟩|⟨hne,hi⟩
 ·injection e with e1 e2
  subst e1;obtain⟨P,hP,hx⟩:=h j b' P' hj;rw[if_neg (by omega)]at hx;subst hx;exact⟨P',hP,by rw[if_pos (by omega)];exact⟨v,_,ok,e2,.inr ⟨hd,L,hl10,hL,rfl⟩⟩⟩
 ·obtain⟨P,hP,hx⟩:=h i b' Q hi;refine⟨P,hP,?_⟩;by_cases h1:i<j
  ·rw[if_pos h1]at hx;rw[if_pos (by omega)];exact hx
  ·rw[if_neg h1]at hx;rw[if_neg (by omega)];exact hx
theorem C4.keep{j:Nat}{G G':GmS}(h:C4 j G G'):G'.ps.length=G.ps.length∧G'.M=G.M∧G'.par=G.par∧G'.pv=G.pv∧∀(i b:Nat) (P':PrS),G'.ps[i]? =some (b,P')→∃P,G.ps[i]? =some (b,P)∧P'.L=P.L:=by
 obtain⟨ps',rfl,hl,h⟩:=h;refine⟨hl,rfl,rfl,rfl,fun i b P' hi=>?_⟩;obtain⟨P,hP,hx⟩:=h i b P' hi;refine⟨P,hP,?_⟩;by_cases h1:i<j
 ·rw[if_pos h1]at hx;obtain⟨v,d,ok,rfl,_⟩:=hx;rfl
 ·rw[if_neg h1]at hx;rw[hx]
def GoodG(G:GmS):Prop:=G.ps.length≤1000∧∀(i b:Nat) (P:PrS),G.ps[i]? =some (b,P)→P.L.length≤1000000∧∀x∈P.L,Ae x.vote
def TK(Bs g:Nat)(k p:Int)(Inv:GmS→Prop)(G:GmS)(w:World)(e:Ending)(w':World):Prop:=
 Below Bs w w'∧(k=2→CR w w')∧((e= .returned (.int .i64 0)∧∃G' G'',Inv G'∧C4 G'.ps.length G' G''∧A9 Bs w' g G'')∨(e= .returned (.int .i64 1)∧k≠2∧(k=1→p<0∨(G.ps.length:Int)≤p)∧A9 Bs w' g G))
def M4(Bs g:Nat)(k:Int)(Inv:GmS→Prop)(w:World)(e:Ending)(w':World):Prop:=
 e= .returned (.tuple #[])∧Below Bs w w'∧(k=2→CR w w')∧∃G',A9 Bs w' g G'∧Inv G'
theorem O4{w:World}{base e size n:Nat}{v:Value}{xs:List Value}(h:w.ownsRow base e size v n xs):∃A c,v= .slice A n c:=Ar h
theorem Cu.decd{Bs b:Nat}{w w':World}{P:PrS}{v:Value}{d:List Ch}{ok:Bool}(h:Cu Bs w b P)(hw:w'=(w.setCell ⟨b,12,none⟩ v).setCell ⟨b,13,none⟩ (.bool ok))(ho:w.ownsRow Bs 88 9 v d.length (d.flatMap chc)):Cu Bs w' b {P with dv:=v,dec:=d,dd:=ok}∧w.grownBy w' (some b):=by
 have hg:w.grownBy w' (some b):=by
  rw[hw];exact(Bi (p:=⟨b,12,none⟩) (Ai w b) rfl _).trans (Bi (p:=⟨b,13,none⟩) (Ai _ b) rfl _)
 refine⟨⟨?_,BO h.row hg (.blk h.blk (by decide)),fun s hs=>(h.sgs s hs).off hg (.blk h.blk (by decide)),BO ho hg (.blk h.blk (by decide))⟩,hg⟩;rw[hw];exact(h.blk.put 12 v).put 13 _
theorem Qo{Bs g:Nat}{w:World}{G:GmS}(s:Stp)(Inv:GmS→Prop)(h:A9 Bs w g G)(hBs:Bs≤w.heap.size)(hn20:G.ps.length≤20)(hA:s.kind=1→∀(p b:Nat) (P:PrS) (V:World),s.process=(p:Int)→G.ps[p]? =some (b,P)→A9 Bs V g G→Bs≤V.heap.size→Calls Tryz.prog 39 #[Am g,Am b] V (M4 Bs g s.kind Inv V))(hM:s.kind=2→∀(V:World) (A:Option Addr) (n c:Nat),A9 Bs V g G→Bs≤V.heap.size→(Cj s.procs G.ps.length).length=n→V.ownsRow Bs 98 1 (.slice A n c) n ((Cj s.procs G.ps.length).map fun i=>Am (G.bk i))→Calls Tryz.prog 40 #[Am g,.slice A n c] V (M4 Bs g s.kind Inv V))(hL:s.kind=3→∀(V:World) (A:Option Addr) (n c:Nat),A9 Bs V g G→Bs≤V.heap.size→(Cj s.procs G.ps.length).length=n→V.ownsRow Bs 98 1 (.slice A n c) n ((Cj s.procs G.ps.length).map fun i=>Am (G.bk i))→Calls Tryz.prog 42 #[Am g,s.vote.val,.slice A n c] V fun e w'=>Below Bs V w'∧KSt V w'∧((e= .returned (.int .i64 1)∧A9 Bs w' g G)∨(e= .returned (.int .i64 0)∧∃G',A9 Bs w' g G'∧Inv G')))(hgd:∀G',Inv G'→GoodG G'):Calls Tryz.prog 22 #[Am g,s.val] w (TK Bs g s.kind s.process Inv G w):=by
 obtain⟨w1,hw1⟩:∃w1,w1=w.alloc (.cells s.cells 48):=⟨_,rfl⟩;have hb1:Below w.heap.size w w1:=by rw[hw1];exact(AC _ _).alloc (AB _) _
 obtain⟨q,hq⟩:∃q,q=w.heap.size:=⟨_,rfl⟩;have hQ1:Blk w1 q 48 s.cells:=by rw[hw1,hq];exact Blk.new w _ _
 have h1:A9 Bs w1 g G:=h.below hb1;have hb01:Below Bs w w1:=hb1.mono hBs;have hBs1:Bs≤w1.heap.size:=AF hBs hb01.size;obtain⟨kd,hkd⟩:∃kd,s.kind=kd:=⟨_,rfl⟩;have y3:w1.cell? ⟨q,0,none⟩=some (.int .i64 kd):=by rw[←hkd];exact hQ1.cell 0
 obtain⟨sp,hsp⟩:∃sp,s.process=sp:=⟨_,rfl⟩;have y4:w1.cell? ⟨q,1,none⟩=some (.int .i64 sp):=by rw[←hsp];exact hQ1.cell 1
 have y5:w1.cell? ⟨q,2,none⟩=some (.int .i64 s.procs):=hQ1.cell 2;rw[hkd,hsp]at hA;rw[hkd]at hM hL;rw[hkd,hsp];obtain⟨idx,hidx⟩:∃idx,idx=Cj s.procs G.ps.length:=⟨_,rfl⟩;obtain⟨nI,hnI⟩:∃nI,idx.length=nI:=⟨_,rfl⟩;have HCh:Hid (∀V,Below w1.heap.size w1 V→Calls Tryz.prog 41 #[Am g,.int .i64 s.procs] V fun e w'=>∃A c,e= .returned (.slice A nI c)∧Below V.heap.size V w'∧w'.ownsRow Bs 98 1 (.slice A nI c) nI (idx.map fun i=>Am (G.bk i))):=fun V hV=>by
  refine(M3 (h1.below hV) s.procs hn20).mono ?_;rintro e w' ⟨v,rfl,hown,hb⟩;rw[←hidx,hnI]at hown;obtain⟨A,c,rfl⟩:=Ar hown;exact⟨A,c,rfl,hb,BF hown (AF hBs1 hV.size)⟩
 rw[←hidx]at hM hL;have HA:=AA hA;have HM:=AA hM;have HL:=AA hL;have HG:=AA h;have HGe:=AA h1;have HGd:=AA hgd;have HW1:=AA hw1;have HQ:=AA hq;have HQ1:=AA hQ1;have HNI:=AA hnI;have hql:q<w1.heap.size:=hQ1.lt;have hbx:Below w1.heap.size w1 w1:=AC _ _;have HK1:Hid (kd=2→CR w w1):=fun _=>(CR.refl w).below hb1
 have HX:Hid (∀V,Blk V q 48 s.cells→AK V q 3 22=some s.vote.cells∧V.cell? ⟨q,2,none⟩=some (.int .i64 s.procs)):=fun V hV=>⟨s.row_vote hV,hV.cell 2⟩
 clear h hA hM hL hgd hw1 hq hQ1 h1 hb1 hkd hsp hidx hnI;go_enter Tryz.func22,Tryz.ntmps22;go_upto_region 3 with fail
 simp only[←HW1.out,←HQ.out];go_upto_block 0 with fail
 go_cut[5] (fun _ wx=>∃G',A9 Bs wx g G'∧Inv G'∧(kd=2→CR w wx)∧Below Bs w wx)
 case first=>
  by_cases k1:kd=1
  ·subst k1;by_cases hp:sp<0∨(G.ps.length:Int)≤sp
   ·have HMb:=AA (Ox HGe.out sp hp);have HG1:=HGe;have HPp:=AA hp;clear HCh HX hp HA HM HL;go_wp2_with (go_at_call 20;refine HMb.out.mono ?_;rintro en w2 ⟨rfl,hw2⟩;replace hw2:=hw2.symm;subst hw2)
    go_ret;exact⟨hb01,HK1.out,.inr ⟨rfl,by omega,fun _=>HPp.out,HG1.out⟩⟩
   obtain⟨p,rfl⟩:∃p:Nat,sp=(p:Int):=⟨sp.toNat,by omega⟩;obtain⟨⟨b,P⟩,hP⟩:∃x,G.ps[p]? =some x:=⟨_,AE (by omega)⟩;obtain⟨pb,pc,_,y1,y2,hpn⟩:=HGe.out.pcells hP;obtain⟨n,hn⟩:∃n,n=G.ps.length:=⟨_,rfl⟩;rw[←hn]at y1 hpn;have HMb:=AA (Er HGe.out hP);have HAc:Hid (∀V,Below w1.heap.size w1 V→Calls Tryz.prog 39 #[Am g,Am b] V (M4 Bs g 1 Inv V)):=fun V hV=>HA.out rfl p b P V rfl hP (HGe.out.below hV) (AF hBs1 hV.size)
   have hpi:(p:Int)<(n:Int):=by omega
   have dm:decide ((P.mem:Int)<0)=false:=by simp
   clear HCh HX hp hP hn hpn HA HM HL;go_upto_region 8 with(go_at_call 20;refine HMb.out.mono ?_;rintro en w2 ⟨rfl,hw2⟩;replace hw2:=hw2.symm;subst hw2)
   go_still_tail 9,(by kernel_rfl);change wpList _ _ _ _ _ w1.drew;go_wp2_with (go_at_call 39;refine(HAc.out _ (AC w1.heap.size w1).drew).mono ?_;rintro en w4 ⟨rfl,hb4,_,G4,hG4,hI4⟩;have HG4:=AA hG4;have HI4:=AA hI4;clear hG4 hI4)
   go_meet;exact⟨G4,HG4.out,HI4.out,fun e=>(by omega),(hb01.trans (AC _ _).drew).trans hb4⟩
  by_cases k2:kd=2
  ·subst k2;have HM1:=AA (HM.out rfl);clear HX HA HL HM k1;go_upto_region 10 with fail
   go_wp2_with (first
    |(go_at_call 41;refine(HCh.out _ hbx).mono ?_;rintro en w2 ⟨A,c,rfl,hb2,hr2⟩;have hb12:=hbx.trans hb2;have HR2:=AA hr2;clear hr2)
    |(go_at_call 40;refine(HM1.out _ A nI c (HGe.out.below hb12) (AF hBs1 hb12.size) HNI.out HR2.out).mono ?_;rintro en w3 ⟨rfl,hb3,hk3,G3,hG3,hI3⟩;have HG3:=AA hG3;have HI3:=AA hI3;have HK3:=AA hk3;clear hG3 hI3 hk3)
    |fail)
   go_meet;exact⟨G3,HG3.out,HI3.out,fun e=>((HK1.out e).below hb12).trans (HK3.out e),(hb01.trans (hb12.mono hBs1)).trans hb3⟩
  by_cases k3:kd=3
  ·subst k3;have HL1:=AA (HL.out rfl);clear HA HM HL k1 k2;go_upto_region 12 with fail
   refine rgD (fun V=>AK V q 3 22=some s.vote.cells∧V.cell? ⟨q,2,none⟩=some (.int .i64 s.procs)) (HX.out _ HQ1.out) fun hHeld=>?_
   refine tkD 41 0 ?_;go_frame;refine tkD 42 1 ?_;go_frame;refine tkD 43 2 ?_;go_frame;refine tkD 44 3 ?_;go_frame;refine tkD 45 4 ?_;go_frame;refine tkD 46 5 ?_;go_frame;refine rd1 6 fun K hK=>?_
   go_simp;refine(HCh.out _ (AC w1.heap.size w1).drew).mono ?_;rintro en w2 ⟨A,c,rfl,hb2,hr2⟩;have hb12:Below w1.heap.size w1 w2:=((AC w1.heap.size w1).drew).trans (hb2.mono (Below.size (AC w1.heap.size w1).drew));have HR2:=AA hr2;have hQ2:=HQ1.out.below hb12 hql;have HQ2:=AA hQ2;clear hr2 hQ2;go_wp2_with fail
   refine hK.out _ _ (HX.out _ HQ2.out) (fun hHeld=>?_);clear hK K;try go_frame
   refine rd1 7 fun K hK=>?_
   go_simp;refine(HL1.out _ A nI c (HGe.out.below hb12) (AF hBs1 hb12.size) HNI.out HR2.out).mono ?_;rintro en w3 ⟨hb3,hk3,hx3⟩;obtain⟨x,rfl,hx4⟩:∃x:Int,en= .returned (.int .i64 x)∧((x=1∧A9 Bs w3 g G)∨(x=0∧∃G',A9 Bs w3 g G'∧Inv G')):=(hx3.elim (fun h=>⟨1,h.1,.inl ⟨rfl,h.2⟩⟩) (fun h=>⟨0,h.1,.inr ⟨rfl,h.2⟩⟩));have HX3:=AA hx4;have HQ3:=AA (hk3 q _ HQ2.out);clear hx3 hx4 hk3;go_wp2_with fail
   refine hK.out _ _ (HX.out _ HQ3.out) (fun hHeld=>?_);clear hK K;try go_frame
   refine tkD 5 8 ?_;go_frame;refine dnD ?_;have hb03:Below Bs w w3:=(hb01.trans (hb12.mono hBs1)).trans hb3;have hx:=HX3.out;clear HX3;rcases hx with⟨rfl,hG3⟩|⟨rfl,hG3⟩
   ·have HG3:=AA hG3;clear hG3;go_wp2;go_ret;exact⟨hb03,fun e=>(by omega),.inr ⟨rfl,by omega,fun e=>(by omega),HG3.out⟩⟩
   ·have HG3:=AA hG3;clear hG3;go_wp2;go_meet;obtain⟨G',h1,h2⟩:=HG3.out;exact⟨G',h1,h2,fun e=>(by omega),hb03⟩
  have e1:(kd==1)=false:=by simpa using k1
  have e2:(kd==2)=false:=by simpa using k2
  have e3:(kd==3)=false:=by simpa using k3
  clear HCh HX HA HM HL;go_wp2;go_ret;exact⟨hb01,HK1.out,.inr ⟨rfl,k2,fun e=>absurd e k1,HGe.out⟩⟩
 case rest=>
  clear HCh HX HA HM HL HK1 HQ1 HGe HG y3 y4 y5;obtain⟨G3,hG3,hI3,hK3,hb03⟩:=hcut;generalize wc=w3 at*;have hBs3:Bs≤w3.heap.size:=AF hBs hb03.size;obtain⟨A3,pc3,hpv3⟩:=O4 hG3.prow;obtain⟨n3,hn3⟩:∃n,n=G3.ps.length:=⟨_,rfl⟩;rw[←hn3]at hpv3;have y1:w3.cell? ⟨g,11,none⟩=some (.slice A3 n3 pc3):=by rw[←hpv3];exact hG3.blk.cell 11
  have HGo:=AA (HGd.out G3 hI3);have hn31:n3≤1000:=by rw[hn3];exact HGo.out.1
  obtain⟨M,hM⟩:∃M,M=G3.M:=⟨_,rfl⟩;obtain⟨par,hpar⟩:∃p,p=G3.par:=⟨_,rfl⟩;have HG3:=AA hG3;have HI3:=AA hI3;have HN3:=AA hn3;have HM:=AA hM;have HPa:=AA hpar;have HPv:=AA hpv3;have HK3:=AA hK3;clear hG3 hI3 hK3 hn3 hM hpar hpv3;go_wp2
  go_loopw [57] (fun iv wr=>∃(j:Nat) (G':GmS),iv= .int .i64 (j:Int)∧j≤n3∧A9 Bs wr g G'∧C4 j G3 G'∧(kd=2→CR w wr)∧Below Bs w3 wr) (fun iv _=>n3-(intOf iv).toNat)
  case atStart=>exact⟨0,G3,rfl,Nat.zero_le _,HG3.out,C4.zero G3,HK3.out,AC _ _⟩
  case round=>
   obtain⟨j,G4,rfl,hjn,hG4,hT4,hK4,hb34⟩:=hrel;have HK4:=AA hK4;clear hK4 HK3;have hb04:Below Bs w wr:=hb03.trans hb34;have hBs4:Bs≤wr.heap.size:=AF hBs hb04.size;by_cases hj:j<n3
   ·have dj:decide ((j:Int)<(n3:Int))=true:=by simp;omega
    obtain⟨e1,e2,e3,e4,e5⟩:=hT4.keep;obtain⟨⟨b4,P4⟩,hP4⟩:∃x,G4.ps[j]? =some x:=⟨_,AE (by rw[e1,←HN3.out];exact hj)⟩;obtain⟨pb,pc,hpv,z1,z2,_⟩:=hG4.pcells hP4;rw[e4,HPv.out]at hpv;injection hpv with hpv hq1 hq2
    subst hpv;clear z1 hq1 hq2;have z3:wr.cell? ⟨b4,13,none⟩=some (.bool P4.dd):=(hG4.prs _ _ hP4).1.blk.cell 13;have hgood:P4.L.length≤1000000∧∀x∈P4.L,Ae x.vote:=by
     obtain⟨P,hP,hL⟩:=e5 j b4 P4 hP4;rw[hL];exact HGo.out.2 j b4 P hP
    have HG4:=AA hG4;have HT4:=AA hT4;have HP4:=AA hP4;have HGood:=AA hgood;have HE:=AA (And.intro e2 e3);obtain⟨d,hd⟩:∃d,d=P4.dd:=⟨_,rfl⟩;rw[←hd]at z3;have HD:=AA hd;clear hG4 hT4 hP4 hgood e1 e2 e3 e4 e5 hd;go_upto_region 18 with fail
    cases d with
    |true=>
     go_wp2;go_roundw
     case rel=>exact⟨j+1,G4,by go_num,by omega,HG4.out,HT4.out.stay HP4.out HD.out.symm,HK4.out,hb34⟩
     case measure=>simp[intOf];omega
    |false=>
     obtain⟨w4,hw4⟩:∃w4,w4=wr:=⟨_,rfl⟩;rw[←hw4]at HG4 HK4 hb34 hb04 hBs4 z2 z3 ⊢;clear hw4;obtain⟨D,hD⟩:∃D,D=P4.D:=⟨_,rfl⟩;have hDl:D.length≤1000000:=by
      rw[hD];show((CD _).map _).length≤_;rw[AY];have:=C7 (P4.L.map Sg.vs);rw[AY]at this;have:=HGood.out.1;omega
     have HVt:Hid (∀V,Below w4.heap.size w4 V→Calls Tryz.prog 44 #[Am b4] V (EK V D)):=fun V hV=>by rw[hD];exact F8 ((HG4.out.below hV).prs _ _ HP4.out).1 HGood.out.1
     have HDc:Hid (∀V A c',Below w4.heap.size w4 V→Rd V V.heap.size A (D.flatMap vtc)→Calls Tryz.prog 43 #[.int .i64 M,par.val,.slice A D.length c'] V (Lz M par D V)):=fun V A c' hV hR=>Oz M par A D.length c' D V rfl hR hDl (by rw[hD];exact PrS.D_valid HGood.out.2)
     have HX:Hid (∀V,Below w4.heap.size w4 V→V.cell? ⟨g,0,none⟩=some (.int .i64 M)∧AK V g 2 8=some par.cells):=fun V hV=>by
      rw[HM.out,HPa.out,←HE.out.1,←HE.out.2];exact⟨(HG4.out.below hV).blk.cell 0,(HG4.out.below hV).row_par⟩
     have HDe:=AA hD;clear hD;go_upto_region 19 with fail
     refine rgD (fun V=>V.cell? ⟨g,0,none⟩=some (.int .i64 M)∧AK V g 2 8=some par.cells) (HX.out _ (AC w4.heap.size w4).drew) fun hHeld=>?_
     refine tkD 67 0 ?_;go_frame;refine tkD 68 1 ?_;go_frame;refine tkD 69 2 ?_;go_frame;refine tkD 70 3 ?_;go_frame;refine tkD 71 4 ?_;go_frame;refine tkD 72 5 ?_;go_frame;refine tkD 73 6 ?_;go_frame;refine tkD 74 7 ?_;go_frame;refine tkD 75 8 ?_;go_frame;refine tkD 76 9 ?_;go_frame;refine tkD 77 10 ?_;go_frame;refine rd1 11 fun K hK=>?_
     go_simp;refine(HVt.out _ (AC w4.heap.size w4).drew).mono ?_;rintro en w5 ⟨v5,rfl,hb5,hown5⟩;obtain⟨A5,c5,rfl,hR5⟩:=BY hown5;have HR5:=AA hR5;have hb45:Below w4.heap.size w4 w5:=((AC w4.heap.size w4).drew).trans (hb5.mono (Below.size (AC w4.heap.size w4).drew));clear hown5 hR5 hb5;go_wp2_with fail
     refine hK.out _ _ (HX.out _ hb45) (fun hHeld=>?_);clear hK K;try go_frame
     refine rd1 12 fun K hK=>?_
     go_simp;refine(HDc.out w5 A5 c5 hb45 HR5.out).mono ?_;rintro en w6 ⟨v6,L,ok,rfl,hown6,hb6,hL10,hdec⟩;obtain⟨A6,c6,rfl,hR6⟩:=BY hown6;have HR6:=AA hR6;have HDec:=AA hdec;have hb46:Below w4.heap.size w4 w6:=hb45.trans (hb6.mono hb45.size);clear hown6 hR6 hb6 hdec;go_wp2_with fail
     refine hK.out _ _ (HX.out _ hb46) (fun hHeld=>?_);clear hK K;try go_frame
     refine tkD 66 13 ?_;go_frame;refine tkD 80 14 ?_;go_frame;refine tkD 81 15 ?_;go_frame;refine tkD 8 16 ?_;go_frame;refine tkD 9 17 ?_;go_frame;refine dnD ?_;obtain⟨m,hm⟩:∃m,L.length=m:=⟨_,rfl⟩;have HCh:=AA (R0 A6 m c6 L w6 hm HR6.out (by omega));rw[hm];have HMl:=AA hm;have hG6:=HG4.out.below hb46;have HG6:=AA hG6;have hBs6:Bs≤w6.heap.size:=AF hBs4 hb46.size;clear hm hG6;go_upto_region 21 with(go_at_call 45;refine HCh.out.mono ?_;rintro en w7 ⟨v7,rfl,hown7,hb7⟩;have hP7:=(HG6.out.below hb7).prs _ _ HP4.out;have k1:w7.cell? ⟨b4,12,none⟩=some P4.dv:=hP7.1.blk.cell 12;have k2:w7.frozen? ⟨b4,12,none⟩=false:=hP7.1.blk.frozen 12;have k3:w7.cell? ⟨b4,13,none⟩=some (.bool P4.dd):=hP7.1.blk.cell 13;have k4:w7.frozen? ⟨b4,13,none⟩=false:=hP7.1.blk.frozen 13;obtain⟨A7,c7,rfl⟩:=Ar hown7;have HOwn7:=AA hown7;have HP7:=AA hP7;clear hown7 hP7)
     have hbB4:Bs≤b4:=HP7.out.2;have hd7:=HP7.out.1.decd (v:=.slice A7 (L.map Eo).length c7) (d:=L.map Eo) (ok:=ok) rfl (BF (by simpa using HOwn7.out) hBs6);have hG7:=(HG6.out.below hb7).setP HP4.out hd7.2 hd7.1;have hb37:=((hb34.trans (hb46.mono hBs4)).trans (hb7.mono hBs6)).grown hd7.2 (AF hBs6 hb7.size) (fun k hk=>by injection hk with hk;subst hk;exact hbB4);have hT7:C4 (j+1) G3 _:=HT4.out.turn (v:=.slice A7 (L.map Eo).length c7) (L:=L) (ok:=ok) HP4.out HD.out.symm (by rw[←HM.out,←HPa.out,←HDe.out];exact HDec.out) hL10;have HG7:=AA hG7;have HT7:=AA hT7;have HK7:Hid (kd=2→CR w _):=fun e=>(((HK4.out e).below hb46).below hb7).off hd7.2 HP7.out.1.blk
     clear hG7 hT7 hd7;go_wp2;go_roundw
     case rel=>exact⟨j+1,_,by go_num,by omega,by simpa using HG7.out,by simpa using HT7.out,by simpa using HK7.out,by simpa using hb37⟩
     case measure=>simp[intOf];omega
   ·have dj:decide ((j:Int)<(n3:Int))=false:=by simp;omega
    have hjn':j=G3.ps.length:=by rw[←HN3.out];omega
    have HT4:Hid (C4 G3.ps.length G3 G4):=by unfold Hid;rw[←hjn'];exact hT4
    have HG4:=AA hG4;clear hT4 hG4 hjn';go_wp2;go_ret;exact⟨hb04,HK4.out,.inl ⟨rfl,G3,G4,HI3.out,HT4.out,HG4.out⟩⟩
end
end Go.Proofs.YtadllffeoibelaaGreat
