/-
  Parts of the proof. No condition.
-/
import Derived.Test.YtadllffeoibelaaGreatS30
open Go.Proofs.Tryz
namespace Go.Proofs.YtadllffeoibelaaGreat
set_option maxRecDepth 100000
set_option maxHeartbeats 32000000
set_option linter.all false
section
open Go.RowKit
theorem VJ(p:Value):Instr.loadAt 88 p=CU 88 p:=rfl
theorem WP(b o:Nat)(w:World):(CU 88 (.pointer (some ⟨b,o,none⟩))).run prog w=DB 88 b o w (AK w b o 9):=CZ _ 9 b o w _ underlying88 rfl (by kernel_rfl)
theorem Rd.chRow{w:World}{B' b o:Nat}{l:List Ch}{k:Nat}{v:Ch}(h:Rd w B' (some ⟨b,o,none⟩) (l.flatMap chc))(hk:l[k]? =some v):AK w b (o+k*9) 9=some v.cells:=by
 have xp:=(AF.1 hk).1;rcases h with h|⟨b',o',e,hb,hc⟩
 ·have:=AY chc 9 l (Ht l);rw[h]at this;simp at this;omega
 ·injection e with e
  injection e with e1 e2
  subst e1;subst e2;refine By (fun j u hu=>?_) rfl;have hj:j<9:=by
   have:=(AF.1 hu).1;simpa using this
  rw[Nat.add_assoc];refine hc _ u ?_;rw[CN chc 9 l (Ht l) k j v hk hj,<-hu]
attribute [local go_sem ↓] Go.wp_at_zero Go.wp_at_succ Aq Au Av Aw VJ
attribute [local go_sem] BE BL BM BN WP AR AX AU
theorem Lv(A A':Option Addr)(c c' n:Nat)(E:List Ch)(w:World)(hE:E.length=n)(hr:Rd w w.heap.size A (E.flatMap chc))(hr':Rd w w.heap.size A' (E.flatMap chc))(xR:n<=1000000):Calls prog 21 #[.slice A n c,.slice A' n c'] w (An w true):=by
 have HE:=AA hE;have HR:=AA hr;have HR':=AA hr';clear hE hr hr';go_enter func21,ntmps21;go_wp2
 go_loopw [5] (fun iv wr=>T5 n w iv wr) (fun iv _=>n-(intOf iv).toNat)
 case atStart=>exact⟨0,rfl,Nat.zero_le _,AC _ _⟩
 case round=>
  obtain⟨i,rfl,hin,hbw⟩:=hrel;by_cases hi:i<n
  ·have di:=Wu (show i<n by omega)
   have i0:(0:Int)<=(i:Int):=by omega
   have i1:(i:Int)<(n:Int):=by omega
   obtain⟨e,he⟩:∃e,E[i]? =some e:=⟨_,AE (by rw[HE.out];exact hi)⟩;obtain⟨b,o,rfl,_,_⟩:=HR.out.cells (by intro h0;have:=AY chc 9 E (Ht E);rw[h0,HE.out]at this;simp at this;omega);obtain⟨b',o',rfl,_,_⟩:=HR'.out.cells (by intro h0;have:=AY chc 9 E (Ht E);rw[h0,HE.out]at this;simp at this;omega);have hx:AK wr.drew b (o+i*9) 9=some e.cells/\AK wr.drew b' (o'+i*9) 9=some e.cells:=⟨(HR.out.below hbw.drew).chRow he,(HR'.out.below hbw.drew).chRow he⟩;have e1:∀W,(Op.equalIn 10000 88 (.agg e.cells) (.agg e.cells)).run prog W= .ok true W:=fun W=>by
    have:=Wc e e W;rwa[decide_eq_true rfl]at this
   have hAa:=hbw.drew;have HX:=AA hx;clear he hx;go_upto_region 6 with fail
   refine rgD (fun V=>AK V b (o+i*9) 9=some e.cells/\AK V b' (o'+i*9) 9=some e.cells) (HX.out) fun _=>?_
   iterate 9 (refine tkA ?_;go_frame)
   refine dnD ?_;go_wp2_with fail
   go_roundw
   case rel=>exact⟨i+1,by go_num,by omega,hAa⟩
   case measure=>simp[intOf];omega
  ·have di:=Wv (show n<=i by omega)
   go_wp2;go_ret;exact⟨rfl,hbw⟩
end
section

section
variable (p a:Nm)
def a1:Vt:=⟨1,0,0,1,0,0,p,a⟩
def a2:Vt:=⟨2,0,0,1,0,0,p,a⟩
def a3:Vt:=⟨3,0,1,1,0,1,p,a⟩
def a4:Vt:=⟨4,0,1,1,0,1,p,a⟩
def aL:Nat->List Vt
 |0=>[]
 |1=>[a1 p a]
 |2=>[a1 p a,a2 p a]
 |3=>[a1 p a,a2 p a,a3 p a]
 |_=>[a1 p a,a2 p a,a3 p a,a4 p a]
theorem LC(k:Nat):spF 0 p (aL p a k)=aL p a k:=by
 match k with
 |0|1|2|3|k+4=>simp[aL,spF,a1,a2,a3,a4]
theorem UO(k:Nat):slB 0 (aL p a k)=aL p a k:=by
 match k with
 |0|1|2|3|k+4=>simp[aL,slB,a1,a2,a3,a4]
theorem VK(k:Nat):slF 0 (aL p a k)=aL p a k:=by
 match k with
 |0|1|2|3|k+4=>simp[aL,slF,a1,a2,a3,a4]
theorem SS(k:Nat):EX p (aL p a k)=aL p a k:=by
 match k with
 |0|1|2|3|k+4=>
  unfold EX;rw[F6]
  ·simp[aL,a1,a2,a3,a4]
  ·simp[aL,a1,a2,a3,a4,IL,Bf]
theorem ST(k:Nat):CP 1 (aL p a k)=aL p a k:=by
 have e1:Em 1 [] (a1 p a)=true:=by simp[Em,DD,a1];decide
 have e2:Em 1 [a1 p a] (a2 p a)=true:=by simp[Em,DD,a1,a2,Kq,Bo];decide
 have e3:Em 1 [a1 p a,a2 p a] (a3 p a)=true:=by
  have i1:CK (xOf 1) 10=[0]:=by decide
  simp[Em,DD,Fn,Df,JT,Bo,a1,a2,a3,i1];exact⟨by decide,decide_eq_true (by decide),decide_eq_true (by decide)⟩
 have e4:Em 1 [a1 p a,a2 p a,a3 p a] (a4 p a)=true:=by
  have i1:CK (xOf 1) 10=[0]:=by decide
  simp[Em,DD,Df,It,FP,Bo,a1,a2,a3,a4,i1];exact⟨by decide,decide_eq_true (by decide),decide_eq_true (by decide)⟩
 match k with
 |0=>rfl
 |1=>simp[aL,CP,e1]
 |2=>simp[aL,CP,e1,e2]
 |3=>simp[aL,CP,e1,e2,e3]
 |k+4=>simp[aL,CP,e1,e2,e3,e4]
theorem VL(k:Nat):SmP p (aL p a k):=by
 match k with
 |0|1|2|3|k+4=>simp[aL,SmP,Fe,a1,a2,a3,a4]
theorem VM(k:Nat):SmO p (aL p a k):=by
 match k with
 |0|1|2|3|k+4=>simp[aL,SmO,Fe,a1,a2,a3,a4]
end
section
variable {p a:Nm}
theorem Ih{k:Nat}{O:List Vt}(h:D0 1 p ((0:Nat):Int) (slB 0 (aL p a k)) O):O=aL p a k:=by
 rw[UO]at h;have:=h.2 (VL p a k);rwa[SS,ST]at this
theorem PT{k:Nat}{O:List Vt}(h:D0 1 p ((0:Nat):Int) (spF 0 p (aL p a k)) O):O=aL p a k:=by
 rw[LC,<-UO]at h;exact Ih h
theorem Lw{k:Nat}{L:List Oc}(hk:k<=3)(h:He 1 p 0 (aL p a k) L):L=[]:=by
 obtain⟨O,hO,hL,_⟩:=h;rcases L with _|⟨o,L⟩
 ·rfl
 obtain⟨w,hw,h4,_⟩:=GA (hL o Am).2 (by decide);have hm:=(hO.2 w hw).1
 match k,hk with
 |0,_=>simp[aL]at hm
 |1,_=>simp[aL]at hm;subst hm;simp[a1]at h4
 |2,_=>simp[aL]at hm;rcases hm with rfl|rfl <;> simp[a1,a2]at h4
 |3,_=>simp[aL]at hm;rcases hm with rfl|rfl|rfl <;> simp[a1,a2,a3]at h4
theorem PU{L:List Oc}(h:He 1 p 0 (aL p a 4) L):kyO 0 (a4 p a)∈L:=by
 obtain⟨O,_,_,hx⟩:=h;obtain⟨e,hx⟩:=hx (VM p a 4);rw[VK,SS,ST]at e;subst e;rcases hx (a4 p a) (by simp[aL]) rfl (by simp[a4])with h|⟨S,h1,h2⟩
 ·exact h
 ·exfalso;have h0:S.testBit 0=true:=h1 (a4 p a) (by simp[aL]) rfl (by simp[a4]) rfl;have h3:Ae 1 10<=Ae (xOf (S:Int)) 10:=CM (fun i hi hb=>by
   have hi0:i=0:=by
    rcases Nat.eq_zero_or_pos i with h|h
    ·exact h
    ·rw[show(1:Nat)=2^0 from rfl,Nat.testBit_two_pow]at hb;simp at hb;omega
   subst hi0;have e:xOf (S:Int)=S%2^10:=by unfold xOf;omega
   rw[e,Nat.testBit_mod_two_pow,h0];rfl) 10 (AB _)
  have h4:Ae 1 10=1:=by decide
  have h5:Bd (Ae (xOf 1) 10)=1:=by decide
  omega
theorem WQ:CR 1 1=1:=by decide
theorem UA:Ae 1 10=1:=by decide
theorem WR:Ae 0 10=0:=by decide
theorem WS(k:Nm):BX (pK 1 k) (aL p a 1)=if a=k then 1 else 0:=by
 by_cases h:a=k <;> simp[BX,pK,aL,a1,h]
theorem VN(k:Nm):BX (pK 2 k) (aL p a 2)=if a=k then 1 else 0:=by
 by_cases h:a=k <;> simp[BX,pK,aL,a1,a2,h]
theorem VO(x:Vl):BX (pV 3 1 x) (aL p a 3)=if Vl.mk 1 a=x then 1 else 0:=by
 by_cases h:Vl.mk 1 a=x <;> simp[BX,pV,pW,Bh,aL,a1,a2,a3,h]
theorem Wg{x:Vl}(h:Bp 3 1 (aL p a 3) x):x=⟨1,a⟩:=by
 obtain⟨v,hv,h1,_,_,rfl⟩:=h;simp[aL]at hv;rcases hv with rfl|rfl|rfl
 ·simp[a1]at h1
 ·simp[a2]at h1
 ·rfl
theorem UP:Bp 3 1 (aL p a 3) ⟨1,a⟩:=⟨a3 p a,by simp[aL],rfl,rfl,by simp[a3],rfl⟩
theorem KA(k:Nat)(kd r:Int):owF 0 p 0 (aL p a k) kd r=(aL p a k).any fun x=>decide (x.signer=0)&&(decide (x.kind=kd)&&decide (x.round=r)):=by
 unfold owF;rw[LC]
theorem VP:((0:Int)<=0/\(0:Int)<=9)/\(xOf 1).testBit (0:Int).toNat=true:=by decide
theorem Wh{wt:Bool}{o:Option Vt}(ha:¬a=Nm.zero)(h:Ce 1 1 p 0 0 (aL p a 1) [a] wt o):o=some (a2 p a):=by
 have no:¬Ff 1 p 0 0 (spF 0 p (aL p a 1)) [a] (owF 0 p 0 (aL p a 1)) none:=by
  rintro(h|⟨O,L,hO,hL,hn⟩)
  ·rw[KA]at h;simp[aL,a1]at h
  ·rw[LC]at hO;have:=Ih hO;subst this;refine hn a ((hL a).2 ⟨ha,?_⟩) Am;rw[WS,if_pos rfl,UA];exact AB _
 rcases o with _|v
 ·rcases h with h|h|⟨L,h,hn⟩|⟨_,h,_⟩
  ·exact absurd VP h
  ·exact absurd h (by decide)
  ·exact absurd (Lw (by omega) h) hn
  ·exact absurd h no
 ·obtain⟨_,_,_,h|⟨h,_⟩⟩:=h
  ·obtain⟨_,O,k,hO,h0,h1,_,rfl⟩:=h;rw[LC]at hO;have:=Ih hO;subst this;rw[WS]at h1;by_cases hk:a=k
   ·subst hk;rfl
   ·rw[if_neg hk,WR]at h1;omega
  ·exact absurd h no
theorem Wi{H:List Nm}{wt:Bool}{o:Option Vt}(ha:¬a=Nm.zero)(h:Ce 1 1 p 0 0 (aL p a 2) H wt o):o=some (a3 p a):=by
 have asg:∀O,D0 1 p ((0:Nat):Int) (slB 0 (spF 0 p (aL p a 2))) O->¬La 2 1 O []:=by
  intro O hO hL;rw[LC]at hO;have:=Ih hO;subst this;have:=(hL a).2 ⟨ha,by rw[VN,if_pos rfl,UA];exact AB _⟩;cases this
 have no:¬EJ 1 1 p 0 0 (spF 0 p (aL p a 2)) wt (owF 0 p 0 (aL p a 2)) none:=by
  rintro(h|⟨_,O,hO,hL⟩)
  ·rw[KA]at h;simp[aL,a1,a2]at h
  ·exact asg O hO hL
 rcases o with _|v
 ·rcases h with h|h|⟨L,h,hn⟩|⟨_,_,h,_⟩
  ·exact absurd VP h
  ·exact absurd h (by decide)
  ·exact absurd (Lw (by omega) h) hn
  ·exact absurd h no
 ·obtain⟨_,_,_,h|⟨_,h|⟨h,_⟩⟩⟩:=h
  ·obtain⟨h,_⟩:=h;rw[KA]at h;simp[aL,a1,a2]at h
  ·obtain⟨_,⟨O,O',k,hO,hO',h0,h1,rfl⟩|⟨_,⟨O,hO,hL⟩,_⟩⟩:=h
   ·rw[LC]at hO hO';have:=Ih hO;subst this;have:=Ih hO';subst this;rw[VN]at h1;by_cases hk:a=k
    ·subst hk;rw[VN,if_pos rfl,WQ];rfl
    ·rw[if_neg hk,WR]at h1;omega
   ·exact absurd hL (asg O hO)
  ·exact absurd h no
theorem Wj{H:List Nm}{wt:Bool}{o:Option Vt}(h:Ce 1 1 p 0 0 (aL p a 3) H wt o):o=some (a4 p a):=by
 have no:∀O,D0 1 p ((0:Nat):Int) (spF 0 p (aL p a 3)) O->¬Db 1 p 0 0 O (owF 0 p 0 (aL p a 3)) 1 none:=by
  rintro O hO (h|h|⟨h,_⟩)
  ·rw[KA]at h;simp[aL,a1,a2,a3]at h
  ·rw[KA]at h;simp[aL,a1,a2,a3]at h
  ·have:=PT hO;subst this;have:=h _ UP;rw[VO,if_pos rfl,UA]at this;omega
 rcases o with _|v
 ·rcases h with h|h|⟨L,h,hn⟩|⟨_,_,_,O,hO,h⟩
  ·exact absurd VP h
  ·exact absurd h (by decide)
  ·exact absurd (Lw (by omega) h) hn
  ·exact absurd (h 1 (by omega) (by omega)).1 (no O hO)
 ·obtain⟨_,_,_,h|⟨_,h|⟨_,O,r,hO,h1,h2,hr,h⟩⟩⟩:=h
  ·obtain⟨h,_⟩:=h;rw[KA]at h;simp[aL,a1,a2,a3]at h
  ·obtain⟨h,_⟩:=h;rw[KA]at h;simp[aL,a1,a2,a3]at h
  ·have hr1:r=1:=by
    rcases Int.lt_or_le 1 r with h|h
    ·exact absurd (hr 1 (by omega) h) (no O hO)
    ·omega
   subst hr1;rcases h with h|⟨_,h,_⟩
   ·have:=PT hO;subst this;obtain⟨_,_,⟨x,hx,h1,rfl⟩|⟨h,_⟩⟩:=h
    ·have:=Wg hx;subst this;rw[VO,if_pos rfl,WQ];rfl
    ·have:=h _ UP;rw[VO,if_pos rfl,UA]at this;omega
   ·exact absurd h (no O hO)
theorem Wk{H:List Nm}{wt:Bool}{o:Option Vt}(h:Ce 1 1 p 0 0 (aL p a 4) H wt o):o=none:=by
 rcases o with _|v
 ·rfl
 ·obtain⟨_,_,h,_⟩:=h;have:=PU h;cases this
end

section
variable {par a:Nm}
theorem Cj.one_some{l:List Vt}{H:List Nm}{wt:Bool}{v:Vt}(h:Cj 1 par 0 l H wt (some v)):Ce 1 1 par 0 0 l H wt (some v):=by
 obtain⟨s,hs,_,h⟩:=h;have hq:Bd (Ae (xOf 1) 10)=1:=by decide
 rw[hq]at h;have h0:s=0:=by
  have h1:=h.2.1;rcases Nat.eq_zero_or_pos s with h|h
  ·exact h
  ·exfalso;have e:xOf 1=2^0:=by decide
   rw[e,Nat.testBit_two_pow]at h1;simp at h1;omega
 subst h0;exact h
theorem Cj.one_none{l:List Vt}{H:List Nm}{wt:Bool}(h:Cj 1 par 0 l H wt none):Ce 1 1 par 0 0 l H wt none:=by
 have h:=h 0 (by omega);have hq:Bd (Ae (xOf 1) 10)=1:=by decide
 rwa[hq]at h
theorem KB(ha:¬a=Nm.zero)(k:Nat):∀x∈aL par a k,AW x:=by
 have v1:AW (a1 par a):=⟨by simp[a1],by simp[a1],by simp[a1,ha],by simp[a1],by simp[a1],by simp[a1],by simp[a1],by simp[a1]⟩;have v2:AW (a2 par a):=⟨by simp[a2],by simp[a2],by simp[a2,ha],by simp[a2],by simp[a2],by simp[a2],by simp[a2],by simp[a2]⟩;have v3:AW (a3 par a):=⟨by simp[a3],by simp[a3],by simp[a3,ha],by simp[a3],by simp[a3],by simp[a3],by simp[a3],by simp[a3]⟩;have v4:AW (a4 par a):=⟨by simp[a4],by simp[a4],by simp[a4,ha],by simp[a4],by simp[a4],by simp[a4],by simp[a4],by simp[a4]⟩
 match k with
 |0=>simp[aL]
 |1=>simp[aL,v1]
 |2=>simp[aL,v1,v2]
 |3=>simp[aL,v1,v2,v3]
 |k+4=>simp[aL,v1,v2,v3,v4]
theorem UB{k:Nat}{wt:Bool}{o:Option Vt}(ha:¬a=Nm.zero)(h1:1<=k)(h4:k<=4)(h:Cj 1 par 0 (aL par a k) (DL (aL par a k)) wt o):(k=4/\o=none)∨(k<4/\∃v,o=some v/\aL par a k++[v]=aL par a (k+1)/\AW v):=by
 have hH:DL (aL par a 1)=[a]:=by simp[DL,aL,a1]
 have key:∀{o},Ce 1 1 par 0 0 (aL par a k) (DL (aL par a k)) wt o->(k=4/\o=none)∨(k<4/\∃v,o=some v/\aL par a k++[v]=aL par a (k+1)):=fun{o} h=>by
  rcases(by omega:k=1∨k=2∨k=3∨k=4)with rfl|rfl|rfl|rfl
  ·rw[hH]at h;exact .inr ⟨by omega,_,Wh ha h,rfl⟩
  ·exact .inr ⟨by omega,_,Wi ha h,rfl⟩
  ·exact .inr ⟨by omega,_,Wj h,rfl⟩
  ·exact .inl ⟨rfl,Wk h⟩
 cases o with
 |none=>
  rcases key h.one_none with h|⟨_,v,h,_⟩
  ·exact .inl h
  ·cases h
 |some v=>
  rcases key h.one_some with⟨_,h⟩|⟨h1,v',h2,h3⟩
  ·cases h
  ·injection h2 with h2
   subst h2;refine .inr ⟨h1,v,rfl,h3,?_⟩;have hv:=KB (par:=par) ha k;obtain⟨s,hs,hd⟩:=h.due hv;exact hd.1
theorem PV(k:Nat)(X:List VS)(h:X.map (·.1)=aL par a k):Cc X=X:=by
 refine F6 ?_;rw[KL];intro i x y hx hy;have e1:(aL par a k)[i]? =some x.1:=by rw[<-h,AV,hx];rfl
 have e2:(aL par a k)[i+1]? =some y.1:=by rw[<-h,AV,hy];rfl
 have hl:=(AF.1 e2).1
 match k with
 |0=>simp[aL]at hl
 |1=>simp[aL]at hl
 |2=>
  simp[aL]at hl;have hi:i=0:=by omega
  subst hi;simp[aL]at e1 e2;rw[<-e1,<-e2];simp[a1,a2,Bf]
 |3=>
  simp[aL]at hl;rcases(by omega:i=0∨i=1)with rfl|rfl <;> (simp[aL]at e1 e2;rw[<-e1,<-e2];simp[a1,a2,a3,Bf])
 |k+4=>
  simp[aL]at hl;rcases(by omega:i=0∨i=1∨i=2)with rfl|rfl|rfl <;> (simp[aL]at e1 e2;rw[<-e1,<-e2];simp[a1,a2,a3,a4,Bf])
end
def AwI(par a:Nm)(k:Nat)(G:GmS):Prop:=∃(b:Nat) (P:PrS),G.ps=[(b,P)]/\G.M=1/\G.par=par/\P.mem=0/\P.pay=a/\P.leaf=k/\P.dd=false/\P.L.map (·.vote)=aL par a k
theorem AwI.D{par a:Nm}{k:Nat}{P:PrS}(h:P.L.map (·.vote)=aL par a k):P.D=aL par a k/\Cc (P.L.map Sg.vs)=P.L.map Sg.vs:=by
 have e:(P.L.map Sg.vs).map (·.1)=aL par a k:=by rw[List.map_map];exact h
 have hc:=PV k _ e;refine⟨?_,hc⟩;show EY (P.L.map Sg.vs)=_;unfold EY;rw[hc,e]
theorem AwI.more{par a:Nm}{k:Nat}{v:Vt}{G G':GmS}(h:AwI par a k G)(hs:Ke 0 v G G')(hv:aL par a k++[v]=aL par a (k+1)):AwI par a (k+1) G':=by
 obtain⟨b,P,h1,h2,h3,h4,h5,h6,h7,h8⟩:=h;obtain⟨b',P',y,sv0,sl,va,vs,L,s1,s2,s3,s4,s5,rfl⟩:=hs;rw[h1]at s1;injection s1 with s1
 injection s1 with s1 s1'
 subst s1;subst s1';refine⟨b,P.signd va L,?_,h2,h3,h4,h5,by show P.leaf+1=k+1;rw[h6],h7,?_⟩
 ·show G.ps.set 0 _=_;rw[h1];rfl
 ·show L.map (·.vote)=_;have e:(P.L.map Sg.vs++[(v,Ex y.seed P.leaf (Dx v))]).map (·.1)=aL par a (k+1):=by
   rw[Ad,List.map_map,<-hv,<-h8];rfl
  have e2:L.map (·.vote)=(L.map Sg.vs).map (·.1):=by rw[List.map_map];rfl
  rw[e2,s5,PV (k+1) _ e,e]
theorem AwI.good{par a:Nm}{k:Nat}{G:GmS}(ha:¬a=Nm.zero)(hk:k<=4)(h:AwI par a k G):GoodG G:=by
 obtain⟨b,P,h1,h2,h3,h4,h5,h6,h7,h8⟩:=h;refine⟨by rw[h1];simp,fun i b' P' hi=>?_⟩;rw[h1]at hi;have hi0:i=0:=by
  have:=(AF.1 hi).1;simp at this;exact this
 subst hi0;simp at hi;obtain⟨rfl,rfl⟩:=hi;have hl:=congrArg List.length h8;rw[Ab]at hl;have hv:=KB (par:=par) ha k;refine⟨?_,fun x hx=>hv _ (by rw[<-h8];exact List.mem_map_of_mem hx)⟩;have:(aL par a k).length<=4:=by
  match k with
  |0|1|2|3|k+4=>simp[aL]
 omega
theorem VQ{par a:Nm}{L:List Oc}{ok:Bool}(h:Nx 1 par (aL par a 4) L ok):ok=true/\∃o,L=[o]/\o.value=a:=by
 have hi:CK (xOf 1) 10=[0]:=by decide
 rcases h with⟨rfl,⟨h1,h2⟩,_⟩|⟨rfl,⟨i,hBR,hb,h⟩|h⟩
 ·refine⟨rfl,?_⟩;rw[hi]at h1;rcases L with _|⟨o,_|⟨o',L⟩⟩
  ·simp at h1
  ·simp at h1;obtain⟨L',hL⟩:=h2 o Am;rw[h1]at hL;obtain⟨O,hO,hx,_⟩:=hL;obtain⟨w,hw,w1,w2,w3,w4⟩:=GA (hx o Am).2 (by decide);have hm:=(hO.2 w hw).1;refine⟨o,rfl,?_⟩;simp[aL]at hm;rcases hm with rfl|rfl|rfl|rfl
   ·simp[a1]at w1
   ·simp[a2]at w1
   ·simp[a3]at w1
   ·exact w4.symm
  ·simp at h1
 ·exfalso;have h0:i=0:=by
   rcases Nat.eq_zero_or_pos i with h|h
   ·exact h
   ·exfalso;have e:xOf 1=2^0:=by decide
    rw[e,Nat.testBit_two_pow]at hb;simp at hb;omega
  subst h0;have:=PU h;cases this
 ·rw[hi]at h;cases h
end
section
open Go.RowKit
attribute [local go_sem ↓] Go.wp_at_zero Go.wp_at_succ Aq Au Av Aw
attribute [local go_sem] BE BL BM BN AR AX AU
theorem VR{g:Nat}{w:World}(s:Stp)(hk:¬s.kind=1/\¬s.kind=2/\¬s.kind=3):Calls prog 22 #[At g,s.val] w fun e w'=>e= .returned (.int .i64 1)/\Wx w w':=by
 obtain⟨w1,hw1⟩:=Wr (w.alloc (.cells s.cells 48));have hb1:Wx w w1:=by rw[hw1];exact(AC _ _).alloc (AB _) _
 obtain⟨q,hq⟩:=Wr w.heap.size;have hQ1:Blk w1 q 48 s.cells:=by rw[hw1,hq];exact Blk.new w _ _
 obtain⟨k,hkk⟩:=Wr s.kind;have y3:w1.cell? ⟨q,0,none⟩=some (.int .i64 k):=by rw[hkk];exact hQ1.cell 0
 rw[<-hkk]at hk;have e1:(k==1)=false:=by simpa using hk.1
 have e2:(k==2)=false:=by simpa using hk.2.1
 have e3:(k==3)=false:=by simpa using hk.2.2
 have HW1:=AA hw1;have HQ:=AA hq;clear hw1 hq hQ1 hk hkk;go_enter func22,ntmps22;go_upto_region 3 with fail
 simp only[<-HW1.out,<-HQ.out];go_wp2;go_ret;exact⟨rfl,hb1⟩
theorem N9:¬IA Nm.zero 0=Nm.zero:=by unfold IA;decide+kernel
theorem N2.one{G:GmS}(h:N2 1 0 0 Nm.zero G):AwI (Mm Nm.zero) (IA Nm.zero 0) 0 G/\(∀(b:Nat) (P:PrS),G.ps=[(b,P)]->P=FB (0,IA Nm.zero 0))/\(∃y,G.ks=[y])/\G.sg=[(Cq,[])]:=by
 have hM:G.M=1:=h.M;obtain⟨ms,h1,h2⟩:=h.ps;have hi:CK (xOf (bits .and .i64 1 0)) 10=[]:=by decide
 rw[hM,hi]at h1;have h1':ms=[0]:=h1;subst h1';have h3:G.ps.map (·.2)=[FB (0,IA Nm.zero 0)]:=h2;have h4:∃b,G.ps=[(b,FB (0,IA Nm.zero 0))]:=by
  rcases hp:G.ps with _|⟨⟨b,P⟩,_|⟨q,l⟩⟩
  ·rw[hp]at h3;simp at h3
  ·rw[hp]at h3;simp only[List.map_cons,List.map_nil,List.cons.injEq,and_true]at h3;exact⟨b,by rw[h3]⟩
  ·rw[hp]at h3;simp at h3
 obtain⟨b,hb⟩:=h4;refine⟨⟨b,_,hb,hM,h.par,rfl,rfl,rfl,rfl,rfl⟩,fun b' P' h=>?_,?_,h.sg⟩
 ·rw[hb]at h;simp only[List.cons.injEq,Prod.mk.injEq,and_true]at h;exact h.2.symm
 ·have h5:=congrArg List.length h.ks;simp at h5;rcases hk:G.ks with _|⟨y,_|⟨z,l⟩⟩
  ·rw[hk]at h5;simp at h5
  ·exact⟨y,rfl⟩
  ·rw[hk]at h5;simp at h5
theorem UC{Bs g b:Nat}{w:World}{G:GmS}{P:PrS}(h:Ax Bs w g G)(hBs:Bs<=w.heap.size)(hG:N2 1 0 0 Nm.zero G)(hp:G.ps[0]? =some (b,P)):Calls prog 39 #[At g,At b] w fun e w'=>e= .returned (.tuple #[])/\Below Bs w w'/\∃G',Ax Bs w' g G'/\AwI (Mm Nm.zero) (IA Nm.zero 0) 4 G':=by
 obtain⟨hI,hP,⟨y,hy⟩,hs⟩:=hG.one;obtain⟨b',P',h1,h2,h3,h4,h5,h6,h7,h8⟩:=hI;rw[h1]at hp;injection hp with hp
 injection hp with hp hp'
 subst hp;subst hp';have hPe:=hP b' P' h1;have hD:=AwI.D (k:=0) h8;obtain⟨par,zJ⟩:=Wr (Mm Nm.zero);obtain⟨a,ha⟩:=Wr (IA Nm.zero 0);have hne:¬a=Nm.zero:=by rw[ha];exact N9
 rw[<-zJ]at h3 h8 hD ⊢;rw[<-ha]at h5 h8 hD ⊢;have k:E9 0 b' 0 0 par 1 a G.ks 0 G P':=⟨by rw[h1];rfl,h4,by rw[hPe],h5,h3,h2,rfl,⟨_,by rw[hs];rfl,Nat.zero_le _⟩,by
  have:=congrArg List.length h8;rw[Ab]at this;rw[this];exact Nat.zero_le _,fun x hx=>by
  have:x.vote∈P'.L.map (·.vote):=List.mem_map_of_mem hx;rw[h8]at this;exact absurd this (by simp[aL]),by omega⟩
 have hI0:AwI par a 0 (G.actd 0 b' P'):=⟨b',{P' with acts:=P'.acts+1},by show G.ps.set 0 _=_;rw[h1];rfl,h2,h3,h4,h5,h6,h7,h8⟩;have due:∀{j:Nat} {G1:GmS} {o:Option Vt},1<=j->j<=4->AwI par a j G1->Hv 0 G1 o->(j=4/\o=none)∨(j<4/\∃v,o=some v/\aL par a j++[v]=aL par a (j+1)/\AW v):=fun{j G1 o} hj1 hj4 hA hD=>by
  obtain⟨b1,P1,e1,e2,e3,e4,e5,e6,e7,e8⟩:=hA;obtain⟨b2,P2,f1,f2⟩:=hD;rw[e1]at f1;injection f1 with f1
  injection f1 with f1 f1'
  subst f1;subst f1';rw[e2,e3,e4,(AwI.D e8).1]at f2;exact UB hne hj1 hj4 f2
 have xB:Du par 0 P'.D=false:=by rw[hD.1];rfl
 refine(Lt (fun G'=>∃j,1<=j/\j<=4/\AwI par a j G') h hBs (by omega) k (by rw[hy];rfl) (by omega) (by omega) ?_ ?_ ?_ ?_).mono ?_
 ·intro h;rw[xB]at h;cases h
 ·intro _ G' hs';exact⟨1,by omega,by omega,hI0.more hs' rfl⟩
 ·intro _ hn;refine absurd ⟨?_,?_⟩ hn
  ·have:=KB (par:=par) hne 1 (a1 par a) (by simp[aL]);exact this
  ·rw[h6];omega
 ·rintro G1 G2 v ⟨j,hj1,hj4,hA⟩ hdue hsg;rcases due hj1 hj4 hA hdue with⟨_,h⟩|⟨h,v',h',hv,_⟩
  ·cases h
  ·injection h' with h'
   subst h';exact⟨j+1,by omega,by omega,hA.more hsg hv⟩
 ·rintro e w' ⟨rfl,hb,G',P'',hG',hK',⟨j,hj1,hj4,hA⟩,hDE⟩;refine⟨rfl,hb,G',hG',?_⟩;rcases hDE with hDE|hDE
  ·rcases due hj1 hj4 hA hDE with⟨rfl,_⟩|⟨_,v,h,_⟩
   ·exact hA
   ·cases h
  ·exfalso;obtain⟨b1,P1,e1,e2,e3,e4,e5,e6,e7,e8⟩:=hA;have hi:=hK'.hi;rw[e1]at hi;injection hi with hi
   injection hi with _ hi
   subst hi;omega
theorem CQ.one{G G':GmS}{par a:Nm}(hI:AwI par a 4 G)(h:CQ G.ps.length G G'):∃(b:Nat) (P:PrS) (c:Ch),G'.ps=[(b,P)]/\P.dd=true/\P.dec=[c]/\c.value=a:=by
 obtain⟨b,P,h1,h2,h3,h4,h5,h6,h7,h8⟩:=hI;obtain⟨ps',rfl,hl,hx⟩:=h;rw[h1]at hl;rcases ps' with _|⟨⟨b',P'⟩,_|⟨q,l⟩⟩
 ·simp at hl
 ·obtain⟨P0,hP0,hd⟩:=hx 0 b' P' rfl;rw[h1]at hP0;injection hP0 with hP0
  injection hP0 with e1 e2
  subst e2;rw[if_pos (by rw[h1];simp)]at hd;obtain⟨v,d,ok,rfl,⟨hd,_⟩|⟨_,L,_,hL,rfl⟩⟩:=hd
  ·rw[h7]at hd;cases hd
  ·rw[h2,h3,(AwI.D h8).1]at hL;obtain⟨rfl,o,rfl,ho⟩:=VQ hL;exact⟨b',_,FR o,rfl,rfl,rfl,ho⟩
 ·simp at hl
theorem Mx(w:World):Calls prog 13 #[] w fun e w'=>e= .returned (.bool true)/\Wx w w':=by
 obtain⟨Bs,hBs⟩:=Wr w.heap.size;have zW:Hid (Calls prog 27 #[.agg #[.int .i64 1,.int .i64 0,.int .i64 0,.int .u8 0,.int .u8 0,.int .u8 0,.int .u8 0,.int .u8 0,.int .u8 0,.int .u8 0,.int .u8 0]] w fun e w'=>∃g G,e= .returned (.tuple #[At g,.int .i64 0])/\Below Bs w w'/\Ax Bs w' g G/\N2 1 0 0 Nm.zero G):=by rw[hBs];exact PD 1 (by omega) 0 0 Nm.zero w
 obtain⟨a,ha⟩:=Wr (IA Nm.zero 0);have hne:¬a=Nm.zero:=by rw[ha];exact N9
 have eP:∀W,(Op.equalIn 10000 24 (.agg a.cells) (.agg BG)).run prog W= .ok false W:=fun W=>by
  have:=EW a Nm.zero W 9998;rwa[decide_eq_false hne]at this
 have HDo:Hid (∀V g G,Bs<=V.heap.size->Ax Bs V g G->N2 1 0 0 Nm.zero G->Calls prog 22 #[At g,.agg #[.int .i64 1,.int .i64 0,.int .i64 0,.int .i64 0,.int .i64 0,.int .i64 0,.int .i64 0,.int .i64 0,.int .i64 0,.int .u8 0,.int .u8 0,.int .u8 0,.int .u8 0,.int .u8 0,.int .u8 0,.int .u8 0,.int .u8 0,.int .u8 0,.int .u8 0,.int .u8 0,.int .u8 0,.int .u8 0,.int .u8 0,.int .u8 0,.int .u8 0]] V fun e w'=>e= .returned (.int .i64 0)/\Below Bs V w'/\∃G' b P c,Ax Bs w' g G'/\G'.ps=[(b,P)]/\P.dd=true/\P.dec=[c]/\c.value=a):=fun V g G hV hG hN=>by
  obtain⟨⟨b,P,h1,_⟩,_⟩:=hN.one;refine(N1 ⟨1,0,0,⟨0,0,0,0,0,0,Nm.zero,Nm.zero⟩⟩ (AwI (Mm Nm.zero) (IA Nm.zero 0) 4) hG hV (by rw[h1];simp) (fun _ p b' P' V' hp0 hP' hV' hB'=>?_) (fun h=>absurd h (by decide)) (fun h=>absurd h (by decide)) (fun G' hG'=>hG'.good N9 (by omega))).mono ?_
  ·have e0:p=0:=by have:(0:Int)=(p:Int):=hp0;omega
   subst e0;exact(UC hV' hB' hN hP').mono fun e w' ⟨a1,a2,a3⟩=>⟨a1,a2,fun h=>absurd h (by decide),a3⟩
  rintro e w' ⟨hb,_,⟨rfl,G',G'',hI,hT,hG''⟩|⟨_,_,h,_⟩⟩;rotate_left
  ·have:=h rfl;rw[h1]at this;simp at this
  obtain⟨b,P,c,h1,h2,h3,h4⟩:=hT.one hI;exact⟨rfl,hb,G'',b,P,c,hG'',h1,h2,h3,by rw[h4,ha]⟩
 have HBs:=AA hBs;have hBw:Bs<=w.heap.size:=by omega
 clear hBs ha hne;go_enter func13,ntmps13;go_upto_region 2 with(go_at_call 27;refine zW.out.mono ?_;rintro en w1 ⟨g,G,rfl,hb1,hG1,hN1⟩;have HG1:=AA hG1;have HN1:=AA hN1;clear hG1 hN1)
 have yE:Bs<=w1.heap.size:=AG hBw hb1.size;have hHF:=AA (HDo.out w1 g G yE HG1.out HN1.out);clear zW HDo;go_upto_region 5 with(go_at_call 22;refine hHF.out.mono ?_;rintro en w2 ⟨rfl,hb2,G2,b,P,c,hG2,hps,hdd,hCX,hcv⟩)
 have yo:Below Bs w w2:=hb1.trans hb2;have zL:Bs<=w2.heap.size:=AG yE hb2.size;have HDc:Hid (Calls prog 18 #[At g,.int .i64 0] w2 fun e w'=>∃ab cc,e= .returned (.tuple #[.slice (some ⟨ab,0,none⟩) 1 cc,.bool true])/\Wx w2 w'/\AK w' ab 1 8=some a.cells):=by
  have h1:G2.ps[0]? =some (b,P):=by rw[hps];rfl
  refine(FU hG2 h1 (by rw[hCX];simp)).mono ?_;rintro e w' ⟨v,rfl,hb,xB,_⟩;have xB:=xB hdd;rw[hCX]at xB;rcases xB.2 with⟨_,h0⟩|⟨ab,cap,cur,rfl,_,hh,_,_,hsz,htk⟩
  ·cases h0
  ·refine⟨ab,cap,by rw[hdd];rfl,hb,?_⟩;rw[<-hcv];refine By (fun j u hu=>?_) rfl;have hj:j<8:=(AF.1 hu).1;rw[Blk.cell (show Blk w' ab 88 cur from hh)];have h2:(cur.toList.take (1*9))[1+j]? =some u:=by
    rw[show cur.toList.take (1*9)=[c].flatMap chc from htk];rcases(by omega:j=0∨j=1∨j=2∨j=3∨j=4∨j=5∨j=6∨j=7)with rfl|rfl|rfl|rfl|rfl|rfl|rfl|rfl <;> exact hu
   rw[BT,if_pos (by omega)]at h2;simpa using h2
 have HPr:Hid (∀V,Wx w2 V->Calls prog 17 #[At g] V fun e w'=>e= .returned (.int .i64 1)/\w'=V):=fun V hV=>by
  have:=Ci (hG2.below hV);rw[hps]at this;exact this
 have HD0:Hid (∀V,Calls prog 22 #[At g,.agg #[.int .i64 0,.int .i64 0,.int .i64 0,.int .i64 0,.int .i64 0,.int .i64 0,.int .i64 0,.int .i64 0,.int .i64 0,.int .u8 0,.int .u8 0,.int .u8 0,.int .u8 0,.int .u8 0,.int .u8 0,.int .u8 0,.int .u8 0,.int .u8 0,.int .u8 0,.int .u8 0,.int .u8 0,.int .u8 0,.int .u8 0,.int .u8 0,.int .u8 0]] V fun e w'=>e= .returned (.int .i64 1)/\Wx V w'):=fun V=>VR ⟨0,0,0,⟨0,0,0,0,0,0,Nm.zero,Nm.zero⟩⟩ (by simp)
 clear hG2 hps hdd hCX hcv HG1 HN1 hHF hb1 hb2;go_upto_region 6 with(go_at_call 18;refine HDc.out.mono ?_;rintro en w3 ⟨ab,cc,rfl,hb3,x3⟩)
 have xd:Below Bs w w3:=yo.trans (hb3.mono zL);go_wp2_with (first
  |(go_at_call 17;refine(HPr.out _ hb3).mono ?_;rintro en w4 ⟨rfl,hw4⟩;replace hw4:=hw4.symm;subst hw4)
  |(go_at_call 22;refine(HD0.out _).mono ?_;rintro en w5 ⟨rfl,hb5⟩)
  |fail)
 go_ret;exact⟨rfl,by show Below w.heap.size w w5;rw[<-HBs.out];exact xd.trans (hb5.mono (AG zL hb3.size))⟩
end
end Go.Proofs.YtadllffeoibelaaGreat
