/-
  What these parts of the proof come to, functions walked and plain laws: GmHeld, AwG, Aw19P, GmDo0, Awk19. No condition.
-/
import Derived.Test.YtadllffeoibelaaGreatS49
import Derived.Test.YtadllffeoibelaaGreatS22
import Derived.Test.YtadllffeoibelaaGreatS6
import Derived.Test.YtadllffeoibelaaGreatS34
import Derived.Test.YtadllffeoibelaaGreatS45
import Derived.Test.YtadllffeoibelaaGreatS10
import Derived.Test.YtadllffeoibelaaGreatS44
import Derived.Test.YtadllffeoibelaaGreatS47
namespace Go.Proofs.YtadllffeoibelaaGreat
set_option maxRecDepth 100000
set_option maxHeartbeats 32000000
set_option linter.all false
section
open Go.RowKit
attribute [local go_sem ↓] Go.wp_at_zero Go.wp_at_succ An Au Av Aw
attribute [local go_sem] BD BH BI BJ AN AW AQ
theorem ME{w:World}{B' b o:Nat}{l:List Sg}{k:Nat}{s:Sg}(h:Rd w B' (some ⟨b,o,none⟩) (l.flatMap sgc))(hk:l[k]? =some s):AK w b (o+k*23) 22=some s.vote.cells:=by
 have h:=(Cl (h.sgRow hk)).2;refine Bo (fun j u hu=>h j u ?_) rfl;rw[Array.getElem?_toList]at hu ⊢;exact s.cell_vote j u hu
theorem KE{w:World}{B' b o:Nat}{l:List Sg}{k:Nat}{s:Sg}(h:Rd w B' (some ⟨b,o,none⟩) (l.flatMap sgc))(hk:l[k]? =some s):w.cell? ⟨b,o+k*23+22,none⟩=some (.slice s.A s.sig.length s.cap):=
 (Cl (h.sgRow hk)).2 22 _ (by rw[Array.getElem?_toList];exact s.cell_sig)
theorem N8{o:Oper}{a:Act}(x:Operand)(A:Option Addr)(c m:Nat)(l:List UInt8)(s0:ByteArray)(hm:m=l.length)(hs:s0=⟨l.toArray⟩)(ho:o.op= .convert 60 9 x)(hx:a.eval x= .slice A m c)(w:World)(B':Nat)(hr:Rd w B' A (l.map B)):(execOp a.eval o).run Tryz.prog w= .ok (.value (.string s0)) w:=by
 have h:=RB w B' A c l hr;rw[←hm,←hs]at h;clear hm hs;unfold execOp;rw[ho];simp only[hx];go_simp
theorem Ku(A:Option Addr)(n c:Nat)(w:World):Calls Tryz.prog 11 #[.slice A n c] w fun e w'=>e= .returned (.bool (decide (n≤60)))∧w'=w:=by
 obtain⟨d,hd⟩:∃d,d=decide (n≤60):=⟨_,rfl⟩;have d1:decide ((n:Int)≤60)=d:=by rw[hd];exact decide_eq_decide.2 (by omega)
 rw[←hd];clear hd;go_enter Tryz.func11,Tryz.ntmps11;go_wp2;go_ret;exact⟨rfl,rfl⟩
theorem FM(C:Cfg)(w:World):Calls Tryz.prog 12 #[C.val] w fun e w'=>e= .returned (.bool (decide (1≤C.n∧C.n≤7)))∧Below w.heap.size w w':=by
 obtain⟨w1,hw1⟩:∃w1,w1=w.alloc (.cells C.cells 26):=⟨_,rfl⟩;have hb1:Below w.heap.size w w1:=by rw[hw1];exact(AC _ _).alloc (AB _) _
 obtain⟨q,hq⟩:∃q,q=w.heap.size:=⟨_,rfl⟩;have hQ1:Blk w1 q 26 C.cells:=by rw[hw1,hq];exact Blk.new w _ _
 obtain⟨n,hn⟩:∃n,n=C.n:=⟨_,rfl⟩;have x1:w1.cell? ⟨q,0,none⟩=some (.int .i64 n):=by rw[hn];exact hQ1.cell 0
 rw[←hn];have HW1:=AA hw1;have HQ:=AA hq;clear hw1 hq hQ1 hn;obtain⟨a,ha⟩:∃a,a=decide (1≤n):=⟨_,rfl⟩;obtain⟨b,hb⟩:∃b,b=decide (n≤7):=⟨_,rfl⟩;have hab:decide (1≤n∧n≤7)=(a&&b):=by rw[ha,hb];exact Bool.decide_and _ _
 rw[hab];replace ha:=ha.symm;replace hb:=hb.symm;clear hab;go_enter Tryz.func12,Tryz.ntmps12;go_upto_region 1 with fail
 simp only[←HW1.out,←HQ.out];cases a with
 |true=>
  go_wp2;go_ret;exact⟨rfl,hb1⟩
 |false=>
  go_wp2;go_ret;exact⟨rfl,hb1⟩
section
variable {Bs g:Nat}{w:World}{G:GmS}
theorem JU(h:A9 Bs w g G):Calls Tryz.prog 16 #[Am g] w fun e w'=>e= .returned (.int .i64 G.hon)∧w'=w:=by
 have y1:w.cell? ⟨g,1,none⟩=some (.int .i64 G.hon):=h.blk.cell 1;clear h;go_enter Tryz.func16,Tryz.ntmps16;go_wp2;go_ret;exact⟨rfl,rfl⟩
theorem JV{i b:Nat}{P:PrS}(h:A9 Bs w g G)(hi:G.ps[i]? =some (b,P))(hsm:P.L.length≤1000000):Calls Tryz.prog 23 #[Am g,.int .i64 (i:Int)] w (FC w (P.L.map Sg.vs)):=by
 have HM:=AA (Er h hi);have HP:=(h.prs _ _ hi).1;obtain⟨pb,pc,_,y1,y2,hpn⟩:=h.pcells hi;obtain⟨A,c,hv,hr⟩:=BY HP.row;have y3:w.cell? ⟨b,0,none⟩=some (.slice A P.L.length c):=by rw[←hv];exact HP.blk.cell 0
 have HC:=AA (G8 A P.L.length c P.L w rfl hr (fun s hs=>(HP.sgs s hs).ok) hsm);obtain⟨m,hm⟩:∃m,m=P.L.length:=⟨_,rfl⟩;obtain⟨n,hn⟩:∃n,n=G.ps.length:=⟨_,rfl⟩;rw[←hn]at y1 hpn;rw[←hm]at y3 HC;have d1:decide ((P.mem:Int)<0)=false:=by simp
 clear h hi hn hr hv HP hm hsm;go_enter Tryz.func23,Tryz.ntmps23;go_wp2_with (first
  |(go_at_call 20;refine HM.out.mono ?_;rintro en w2 ⟨rfl,hw2⟩;replace hw2:=hw2.symm;subst hw2)
  |(go_at_call 46;refine HC.out.mono ?_;rintro en w3 ⟨L,v,rfl,h1,h2,h3,h4⟩;have H3:=AA (And.intro h2 (And.intro h3 h4));clear h2 h3 h4)
  |fail)
 go_ret;exact⟨L,v,rfl,h1,H3.out⟩
end
theorem KF(A A':Option Addr)(c c' n:Nat)(E F:List Sg)(w:World)(hE:E.length=n)(hF:F.length=n)(hr:Rd w w.heap.size A (E.flatMap sgc))(hr':Rd w w.heap.size A' (F.flatMap sgc))(hk:FP w w.heap.size E)(hk':FP w w.heap.size F)(heq:E.map Sg.vs=F.map Sg.vs)(hsmall:n≤1000000):Calls Tryz.prog 24 #[.slice A n c,.slice A' n c'] w (Al w true):=by
 have HE:=AA hE;have HF:=AA hF;have HR:=AA hr;have HR':=AA hr';have HK:=AA hk;have HK':=AA hk';have HQ:=AA heq;clear hE hF hr hr' hk hk' heq;go_enter Tryz.func24,Tryz.ntmps24;go_wp2
 go_loopw [5] (fun iv wr=>N5 n w iv wr) (fun iv _=>n-(intOf iv).toNat)
 case atStart=>exact⟨0,rfl,Nat.zero_le _,AC _ _⟩
 case round=>
  obtain⟨i,rfl,hin,hbw⟩:=hrel;by_cases hi:i<n
  ·have di:decide ((i:Int)<(n:Int))=true:=by simp;omega
   have i0:(0:Int)≤(i:Int):=by omega
   have i1:(i:Int)<(n:Int):=by omega
   obtain⟨e,he⟩:∃e,E[i]? =some e:=⟨_,AE (by rw[HE.out];exact hi)⟩;obtain⟨f,hf⟩:∃f,F[i]? =some f:=⟨_,AE (by rw[HF.out];exact hi)⟩;obtain⟨hs1,hs2⟩:=(TN e f).1 (SK HQ.out he hf);obtain⟨b,o,rfl,_,_⟩:=HR.out.cells (by intro h0;have:=AX sgc 23 E (CM E);rw[h0,HE.out]at this;simp at this;omega);obtain⟨b',o',rfl,_,_⟩:=HR'.out.cells (by intro h0;have:=AX sgc 23 F (CM F);rw[h0,HF.out]at this;simp at this;omega);obtain⟨vt,hvt⟩:∃vt,vt=e.vote:=⟨_,rfl⟩;obtain⟨sg,hsg⟩:∃sg,sg=e.sig:=⟨_,rfl⟩;obtain⟨m,hm⟩:∃m,m=sg.length:=⟨_,rfl⟩;have hx:AK wr b (o+i*23) 22=some vt.cells∧AK wr b' (o'+i*23) 22=some vt.cells∧wr.cell? ⟨b,o+i*23+22,none⟩=some (.slice e.A m e.cap)∧wr.cell? ⟨b',o'+i*23+22,none⟩=some (.slice f.A m f.cap)∧Rd wr wr.heap.size e.A (sg.map B)∧Rd wr wr.heap.size f.A (sg.map B):=by
    rw[hm,hsg,hvt];refine⟨ME (HR.out.below hbw) he,?_,KE (HR.out.below hbw) he,?_,((HK.out e (AM he)).1.2.1.below hbw).more hbw.size,?_⟩
    ·rw[hs1];exact ME (HR'.out.below hbw) hf
    ·rw[hs2];exact KE (HR'.out.below hbw) hf
    ·rw[hs2];exact((HK'.out f (AM hf)).1.2.1.below hbw).more hbw.size
   obtain⟨s0,hs0⟩:∃s:ByteArray,s=⟨sg.toArray⟩:=⟨_,rfl⟩;have e1:∀W,(Op.equalIn 10000 46 (.agg vt.cells) (.agg vt.cells)).run Tryz.prog W= .ok true W:=fun W=>by
    have:=OS vt vt W;rwa[decide_eq_true rfl]at this
   obtain⟨BW,hBW⟩:∃BW,BW=wr.heap.size:=⟨_,rfl⟩;rw[←hBW]at hx;have HM:=AA hm;have HS0:=AA hs0;have HX:=AA hx;have hbw':=hbw.drew;clear he hf hs1 hs2 hvt hsg hm hx hs0 hBW;go_upto_region 6 with fail
   refine rgD (fun V=>AK V b (o+i*23) 22=some vt.cells∧AK V b' (o'+i*23) 22=some vt.cells∧V.cell? ⟨b,o+i*23+22,none⟩=some (.slice e.A m e.cap)∧V.cell? ⟨b',o'+i*23+22,none⟩=some (.slice f.A m f.cap)∧Rd V BW e.A (sg.map B)∧Rd V BW f.A (sg.map B)) (HX.out) fun hHeld=>?_
   refine tkD 17 0 ?_;go_frame;refine tkD 18 1 ?_;go_frame;refine tkD 19 2 ?_;go_frame;refine tkD 20 3 ?_;go_frame;refine tkD 21 4 ?_;go_frame;refine tkD 22 5 ?_;go_frame;refine tkD 23 6 ?_;go_frame;refine tkD 24 7 ?_;go_frame;refine tkD 25 8 ?_;go_frame;refine tkD 26 9 ?_;go_frame;refine tkD 27 10 ?_;go_frame;refine tkD 28 11 ?_;go_frame;refine tkD 29 12 ?_;go_frame;refine tkD 30 13 ?_;go_frame;refine tkD 31 14 ?_;go_frame;refine tkD 32 15 ?_;go_frame;refine tkD 33 16 ?_;go_frame;refine Az (some 34) (i:=17) (v:=.string s0) rfl rfl (by kernel_rfl) (by kernel_rfl) (by kernel_rfl) (fun _ _ _ h=>h) (by rfl) (fun wq hq=>N8 (.tmp 33) e.A e.cap m sg s0 HM.out HS0.out rfl rfl wq BW hq.2.2.2.2.1) (by assumption) ?_;go_frame;refine tkD 35 18 ?_;go_frame;refine tkD 36 19 ?_;go_frame;refine tkD 37 20 ?_;go_frame;refine tkD 38 21 ?_;go_frame;refine tkD 39 22 ?_;go_frame;refine Az (some 40) (i:=23) (v:=.string s0) rfl rfl (by kernel_rfl) (by kernel_rfl) (by kernel_rfl) (fun _ _ _ h=>h) (by rfl) (fun wq hq=>N8 (.tmp 39) f.A f.cap m sg s0 HM.out HS0.out rfl rfl wq BW hq.2.2.2.2.2) (by assumption) ?_;go_frame;refine tkD 41 24 ?_;go_frame;refine tkD 42 25 ?_;go_frame;refine dnD ?_;go_wp2_with fail
   go_roundw
   case rel=>exact⟨i+1,by go_num,by omega,hbw'⟩
   case measure=>simp[intOf];omega
  ·have di:decide ((i:Int)<(n:Int))=false:=by simp;omega
   go_wp2;go_ret;exact⟨rfl,hbw⟩
end
section

section
variable (p a:Nm)
def a1:Vt:=⟨1,0,0,1,0,0,p,a⟩
def a2:Vt:=⟨2,0,0,1,0,0,p,a⟩
def a3:Vt:=⟨3,0,1,1,0,1,p,a⟩
def a4:Vt:=⟨4,0,1,1,0,1,p,a⟩
def aL:Nat→List Vt
 |0=>[]
 |1=>[a1 p a]
 |2=>[a1 p a,a2 p a]
 |3=>[a1 p a,a2 p a,a3 p a]
 |_=>[a1 p a,a2 p a,a3 p a,a4 p a]
theorem KG(k:Nat):spF 0 p (aL p a k)=aL p a k:=by
 match k with
 |0|1|2|3|k+4=>simp[aL,spF,a1,a2,a3,a4]
theorem SZ(k:Nat):slB 0 (aL p a k)=aL p a k:=by
 match k with
 |0|1|2|3|k+4=>simp[aL,slB,a1,a2,a3,a4]
theorem TP(k:Nat):slF 0 (aL p a k)=aL p a k:=by
 match k with
 |0|1|2|3|k+4=>simp[aL,slF,a1,a2,a3,a4]
theorem Qz(k:Nat):Lc p (aL p a k)=aL p a k:=by
 match k with
 |0|1|2|3|k+4=>
  unfold Lc;rw[Ez]
  ·simp[aL,a1,a2,a3,a4]
  ·simp[aL,a1,a2,a3,a4,GH,Bg]
theorem Q0(k:Nat):Fl 1 (aL p a k)=aL p a k:=by
 have e1:I0 1 [] (a1 p a)=true:=by simp[I0,Dc,a1];decide
 have e2:I0 1 [a1 p a] (a2 p a)=true:=by simp[I0,Dc,a1,a2,LW,CQ];decide
 have e3:I0 1 [a1 p a,a2 p a] (a3 p a)=true:=by
  have i1:CH (xOf 1) 10=[0]:=by decide
  simp[I0,Dc,Fq,D4,J0,CQ,a1,a2,a3,i1];exact⟨by decide,decide_eq_true (by decide),decide_eq_true (by decide)⟩
 have e4:I0 1 [a1 p a,a2 p a,a3 p a] (a4 p a)=true:=by
  have i1:CH (xOf 1) 10=[0]:=by decide
  simp[I0,Dc,D4,Iz,G9,CQ,a1,a2,a3,a4,i1];exact⟨by decide,decide_eq_true (by decide),decide_eq_true (by decide)⟩
 match k with
 |0=>rfl
 |1=>simp[aL,Fl,e1]
 |2=>simp[aL,Fl,e1,e2]
 |3=>simp[aL,Fl,e1,e2,e3]
 |k+4=>simp[aL,Fl,e1,e2,e3,e4]
theorem TQ(k:Nat):SmP p (aL p a k):=by
 match k with
 |0|1|2|3|k+4=>simp[aL,SmP,a1,a2,a3,a4]
theorem TR(k:Nat):SmO p (aL p a k):=by
 match k with
 |0|1|2|3|k+4=>simp[aL,SmO,a1,a2,a3,a4]
end
section
variable {p a:Nm}
theorem Hh{k:Nat}{O:List Vt}(h:Ea 1 p ((0:Nat):Int) (slB 0 (aL p a k)) O):O=aL p a k:=by
 rw[SZ]at h;have:=h.2 (TQ p a k);rwa[Qz,Q0]at this
theorem N9{k:Nat}{O:List Vt}(h:Ea 1 p ((0:Nat):Int) (spF 0 p (aL p a k)) O):O=aL p a k:=by
 rw[KG,←SZ]at h;exact Hh h
theorem Kv{k:Nat}{L:List Oc}(hk:k≤3)(h:I6 1 p 0 (aL p a k) L):L=[]:=by
 obtain⟨O,hO,hL,_⟩:=h;rcases L with _|⟨o,L⟩
 ·rfl
 obtain⟨w,hw,h4,_⟩:=E6 (hL o BB).2 (by decide);have hm:=(hO.2 w hw).1
 match k,hk with
 |0,_=>simp[aL]at hm
 |1,_=>simp[aL]at hm;subst hm;simp[a1]at h4
 |2,_=>simp[aL]at hm;rcases hm with rfl|rfl <;> simp[a1,a2]at h4
 |3,_=>simp[aL]at hm;rcases hm with rfl|rfl|rfl <;> simp[a1,a2,a3]at h4
theorem OA{L:List Oc}(h:I6 1 p 0 (aL p a 4) L):kyO 0 (a4 p a)∈L:=by
 obtain⟨O,_,_,hx⟩:=h;obtain⟨e,hx⟩:=hx (TR p a 4);rw[TP,Qz,Q0]at e;subst e;rcases hx (a4 p a) (by simp[aL]) rfl (by simp[a4])with h|⟨S,h1,h2⟩
 ·exact h
 ·exfalso;have h0:S.testBit 0=true:=h1 (a4 p a) (by simp[aL]) rfl (by simp[a4]) rfl;have h3:At 1 10≤At (xOf (S:Int)) 10:=Dl (fun i hi hb=>by
   have hi0:i=0:=by
    rcases Nat.eq_zero_or_pos i with h|h
    ·exact h
    ·rw[show(1:Nat)=2^0 from rfl,Nat.testBit_two_pow]at hb;simp at hb;omega
   subst hi0;have e:xOf (S:Int)=S%2^10:=by unfold xOf;omega
   rw[e,Nat.testBit_mod_two_pow,h0];rfl) 10 (AB _)
  have h4:At 1 10=1:=by decide
  have h5:B9 (At (xOf 1) 10)=1:=by decide
  omega
theorem UH:Fv 1 1=1:=by decide
theorem SM:At 1 10=1:=by decide
theorem UI:At 0 10=0:=by decide
theorem UJ(k:Nm):Bq (pK 1 k) (aL p a 1)=if a=k then 1 else 0:=by
 by_cases h:a=k <;> simp[Bq,pK,aL,a1,h]
theorem TS(k:Nm):Bq (pK 2 k) (aL p a 2)=if a=k then 1 else 0:=by
 by_cases h:a=k <;> simp[Bq,pK,aL,a1,a2,h]
theorem TT(x:Vl):Bq (pV 3 1 x) (aL p a 3)=if Vl.mk 1 a=x then 1 else 0:=by
 by_cases h:Vl.mk 1 a=x <;> simp[Bq,pV,pW,Ew,aL,a1,a2,a3,h]
theorem UX{x:Vl}(h:Cn 3 1 (aL p a 3) x):x=⟨1,a⟩:=by
 obtain⟨v,hv,h1,_,_,rfl⟩:=h;simp[aL]at hv;rcases hv with rfl|rfl|rfl
 ·simp[a1]at h1
 ·simp[a2]at h1
 ·rfl
theorem Sa:Cn 3 1 (aL p a 3) ⟨1,a⟩:=⟨a3 p a,by simp[aL],rfl,rfl,by simp[a3],rfl⟩
theorem JW(k:Nat)(kd r:Int):owF 0 p 0 (aL p a k) kd r=(aL p a k).any fun x=>decide (x.signer=0)&&(decide (x.kind=kd)&&decide (x.round=r)):=by
 unfold owF;rw[KG]
theorem TU:((0:Int)≤0∧(0:Int)≤9)∧(xOf 1).testBit (0:Int).toNat=true:=by decide
theorem UY{wt:Bool}{o:Option Vt}(ha:¬a=Nm.zero)(h:Ci 1 1 p 0 0 (aL p a 1) [a] wt o):o=some (a2 p a):=by
 have no:¬Eu 1 p 0 0 (spF 0 p (aL p a 1)) [a] (owF 0 p 0 (aL p a 1)) none:=by
  rintro(h|⟨O,L,hO,hL,hn⟩)
  ·rw[JW]at h;simp[aL,a1]at h
  ·rw[KG]at hO;have:=Hh hO;subst this;refine hn a ((hL a).2 ⟨ha,?_⟩) BB;rw[UJ,if_pos rfl,SM];exact AB _
 rcases o with _|v
 ·rcases h with h|h|⟨L,h,hn⟩|⟨_,h,_⟩
  ·exact absurd TU h
  ·exact absurd h (by decide)
  ·exact absurd (Kv (by omega) h) hn
  ·exact absurd h no
 ·obtain⟨_,_,_,h|⟨h,_⟩⟩:=h
  ·obtain⟨_,O,k,hO,h0,h1,_,rfl⟩:=h;rw[KG]at hO;have:=Hh hO;subst this;rw[UJ]at h1;by_cases hk:a=k
   ·subst hk;rfl
   ·rw[if_neg hk,UI]at h1;omega
  ·exact absurd h no
theorem UZ{H:List Nm}{wt:Bool}{o:Option Vt}(ha:¬a=Nm.zero)(h:Ci 1 1 p 0 0 (aL p a 2) H wt o):o=some (a3 p a):=by
 have asg:∀O,Ea 1 p ((0:Nat):Int) (slB 0 (spF 0 p (aL p a 2))) O→¬Ka 2 1 O []:=by
  intro O hO hL;rw[KG]at hO;have:=Hh hO;subst this;have:=(hL a).2 ⟨ha,by rw[TS,if_pos rfl,SM];exact AB _⟩;cases this
 have no:¬D0 1 1 p 0 0 (spF 0 p (aL p a 2)) wt (owF 0 p 0 (aL p a 2)) none:=by
  rintro(h|⟨_,O,hO,hL⟩)
  ·rw[JW]at h;simp[aL,a1,a2]at h
  ·exact asg O hO hL
 rcases o with _|v
 ·rcases h with h|h|⟨L,h,hn⟩|⟨_,_,h,_⟩
  ·exact absurd TU h
  ·exact absurd h (by decide)
  ·exact absurd (Kv (by omega) h) hn
  ·exact absurd h no
 ·obtain⟨_,_,_,h|⟨_,h|⟨h,_⟩⟩⟩:=h
  ·obtain⟨h,_⟩:=h;rw[JW]at h;simp[aL,a1,a2]at h
  ·obtain⟨_,⟨O,O',k,hO,hO',h0,h1,rfl⟩|⟨_,⟨O,hO,hL⟩,_⟩⟩:=h
   ·rw[KG]at hO hO';have:=Hh hO;subst this;have:=Hh hO';subst this;rw[TS]at h1;by_cases hk:a=k
    ·subst hk;rw[TS,if_pos rfl,UH];rfl
    ·rw[if_neg hk,UI]at h1;omega
   ·exact absurd hL (asg O hO)
  ·exact absurd h no
theorem Ua{H:List Nm}{wt:Bool}{o:Option Vt}(h:Ci 1 1 p 0 0 (aL p a 3) H wt o):o=some (a4 p a):=by
 have no:∀O,Ea 1 p ((0:Nat):Int) (spF 0 p (aL p a 3)) O→¬DI 1 p 0 0 O (owF 0 p 0 (aL p a 3)) 1 none:=by
  rintro O hO (h|h|⟨h,_⟩)
  ·rw[JW]at h;simp[aL,a1,a2,a3]at h
  ·rw[JW]at h;simp[aL,a1,a2,a3]at h
  ·have:=N9 hO;subst this;have:=h _ Sa;rw[TT,if_pos rfl,SM]at this;omega
 rcases o with _|v
 ·rcases h with h|h|⟨L,h,hn⟩|⟨_,_,_,O,hO,h⟩
  ·exact absurd TU h
  ·exact absurd h (by decide)
  ·exact absurd (Kv (by omega) h) hn
  ·exact absurd (h 1 (by omega) (by omega)) (no O hO)
 ·obtain⟨_,_,_,h|⟨_,h|⟨_,O,r,hO,h1,h2,hr,h⟩⟩⟩:=h
  ·obtain⟨h,_⟩:=h;rw[JW]at h;simp[aL,a1,a2,a3]at h
  ·obtain⟨h,_⟩:=h;rw[JW]at h;simp[aL,a1,a2,a3]at h
  ·have hr1:r=1:=by
    rcases Int.lt_or_le 1 r with h|h
    ·exact absurd (hr 1 (by omega) h) (no O hO)
    ·omega
   subst hr1;rcases h with h|⟨_,h,_⟩
   ·have:=N9 hO;subst this;obtain⟨_,_,⟨x,hx,h1,rfl⟩|⟨h,_⟩⟩:=h
    ·have:=UX hx;subst this;rw[TT,if_pos rfl,UH];rfl
    ·have:=h _ Sa;rw[TT,if_pos rfl,SM]at this;omega
   ·exact absurd h (no O hO)
theorem Ub{H:List Nm}{wt:Bool}{o:Option Vt}(h:Ci 1 1 p 0 0 (aL p a 4) H wt o):o=none:=by
 rcases o with _|v
 ·rfl
 ·obtain⟨_,_,h,_⟩:=h;have:=OA h;cases this
end

section
variable {par a:Nm}
theorem DP.one_some{l:List Vt}{H:List Nm}{wt:Bool}{v:Vt}(h:DP 1 par 0 l H wt (some v)):Ci 1 1 par 0 0 l H wt (some v):=by
 obtain⟨s,hs,_,h⟩:=h;have hq:B9 (At (xOf 1) 10)=1:=by decide
 rw[hq]at h;have h0:s=0:=by
  have h1:=h.2.1;rcases Nat.eq_zero_or_pos s with h|h
  ·exact h
  ·exfalso;have e:xOf 1=2^0:=by decide
   rw[e,Nat.testBit_two_pow]at h1;simp at h1;omega
 subst h0;exact h
theorem DP.one_none{l:List Vt}{H:List Nm}{wt:Bool}(h:DP 1 par 0 l H wt none):Ci 1 1 par 0 0 l H wt none:=by
 have h:=h 0 (by omega);have hq:B9 (At (xOf 1) 10)=1:=by decide
 rwa[hq]at h
theorem JX(ha:¬a=Nm.zero)(k:Nat):∀x∈aL par a k,Ae x:=by
 have v1:Ae (a1 par a):=⟨by simp[a1],by simp[a1],by simp[a1,ha],by simp[a1],by simp[a1],by simp[a1],by simp[a1],by simp[a1]⟩;have v2:Ae (a2 par a):=⟨by simp[a2],by simp[a2],by simp[a2,ha],by simp[a2],by simp[a2],by simp[a2],by simp[a2],by simp[a2]⟩;have v3:Ae (a3 par a):=⟨by simp[a3],by simp[a3],by simp[a3,ha],by simp[a3],by simp[a3],by simp[a3],by simp[a3],by simp[a3]⟩;have v4:Ae (a4 par a):=⟨by simp[a4],by simp[a4],by simp[a4,ha],by simp[a4],by simp[a4],by simp[a4],by simp[a4],by simp[a4]⟩
 match k with
 |0=>simp[aL]
 |1=>simp[aL,v1]
 |2=>simp[aL,v1,v2]
 |3=>simp[aL,v1,v2,v3]
 |k+4=>simp[aL,v1,v2,v3,v4]
theorem SN{k:Nat}{wt:Bool}{o:Option Vt}(ha:¬a=Nm.zero)(h1:1≤k)(h4:k≤4)(h:DP 1 par 0 (aL par a k) (Dj (aL par a k)) wt o):(k=4∧o=none)∨(k<4∧∃v,o=some v∧aL par a k++[v]=aL par a (k+1)∧Ae v):=by
 have hH:Dj (aL par a 1)=[a]:=by simp[Dj,aL,a1]
 have key:∀{o},Ci 1 1 par 0 0 (aL par a k) (Dj (aL par a k)) wt o→(k=4∧o=none)∨(k<4∧∃v,o=some v∧aL par a k++[v]=aL par a (k+1)):=fun{o} h=>by
  rcases(by omega:k=1∨k=2∨k=3∨k=4)with rfl|rfl|rfl|rfl
  ·rw[hH]at h;exact .inr ⟨by omega,_,UY ha h,rfl⟩
  ·exact .inr ⟨by omega,_,UZ ha h,rfl⟩
  ·exact .inr ⟨by omega,_,Ua h,rfl⟩
  ·exact .inl ⟨rfl,Ub h⟩
 cases o with
 |none=>
  rcases key h.one_none with h|⟨_,v,h,_⟩
  ·exact .inl h
  ·cases h
 |some v=>
  rcases key h.one_some with⟨_,h⟩|⟨h1,v',h2,h3⟩
  ·cases h
  ·injection h2 with h2
   subst h2;refine .inr ⟨h1,v,rfl,h3,?_⟩;have hv:=JX (par:=par) ha k;obtain⟨s,hs,hd⟩:=h.due hv;exact hd.1
theorem OB(k:Nat)(X:List VS)(h:X.map (·.1)=aL par a k):CD X=X:=by
 refine Ez ?_;rw[Id];intro i x y hx hy;have e1:(aL par a k)[i]? =some x.1:=by rw[←h,AU,hx];rfl
 have e2:(aL par a k)[i+1]? =some y.1:=by rw[←h,AU,hy];rfl
 have hl:=(AG.1 e2).1
 match k with
 |0=>simp[aL]at hl
 |1=>simp[aL]at hl
 |2=>
  simp[aL]at hl;have hi:i=0:=by omega
  subst hi;simp[aL]at e1 e2;rw[←e1,←e2];simp[a1,a2,Bg]
 |3=>
  simp[aL]at hl;rcases(by omega:i=0∨i=1)with rfl|rfl <;> (simp[aL]at e1 e2;rw[←e1,←e2];simp[a1,a2,a3,Bg])
 |k+4=>
  simp[aL]at hl;rcases(by omega:i=0∨i=1∨i=2)with rfl|rfl|rfl <;> (simp[aL]at e1 e2;rw[←e1,←e2];simp[a1,a2,a3,a4,Bg])
end
def AwI(par a:Nm)(k:Nat)(G:GmS):Prop:=∃(b:Nat) (P:PrS),G.ps=[(b,P)]∧G.M=1∧G.par=par∧P.mem=0∧P.pay=a∧P.leaf=k∧P.dd=false∧P.L.map (·.vote)=aL par a k
theorem AwI.D{par a:Nm}{k:Nat}{P:PrS}(h:P.L.map (·.vote)=aL par a k):P.D=aL par a k∧CD (P.L.map Sg.vs)=P.L.map Sg.vs:=by
 have e:(P.L.map Sg.vs).map (·.1)=aL par a k:=by rw[List.map_map];exact h
 have hc:=OB k _ e;refine⟨?_,hc⟩;show F7 (P.L.map Sg.vs)=_;unfold F7;rw[hc,e]
theorem AwI.more{par a:Nm}{k:Nat}{v:Vt}{G G':GmS}(h:AwI par a k G)(hs:Lx 0 v G G')(hv:aL par a k++[v]=aL par a (k+1)):AwI par a (k+1) G':=by
 obtain⟨b,P,h1,h2,h3,h4,h5,h6,h7,h8⟩:=h;obtain⟨b',P',y,sv0,sl,va,vs,L,s1,s2,s3,s4,s5,rfl⟩:=hs;rw[h1]at s1;injection s1 with s1
 injection s1 with s1 s1'
 subst s1;subst s1';refine⟨b,P.signd va L,?_,h2,h3,h4,h5,by show P.leaf+1=k+1;rw[h6],h7,?_⟩
 ·show G.ps.set 0 _=_;rw[h1];rfl
 ·show L.map (·.vote)=_;have e:(P.L.map Sg.vs++[(v,EI y.seed P.leaf (DZ v))]).map (·.1)=aL par a (k+1):=by
   rw[Ac,List.map_map,←hv,←h8];rfl
  have e2:L.map (·.vote)=(L.map Sg.vs).map (·.1):=by rw[List.map_map];rfl
  rw[e2,s5,OB (k+1) _ e,e]
theorem AwI.good{par a:Nm}{k:Nat}{G:GmS}(ha:¬a=Nm.zero)(hk:k≤4)(h:AwI par a k G):GoodG G:=by
 obtain⟨b,P,h1,h2,h3,h4,h5,h6,h7,h8⟩:=h;refine⟨by rw[h1];simp,fun i b' P' hi=>?_⟩;rw[h1]at hi;have hi0:i=0:=by
  have:=(AG.1 hi).1;simp at this;exact this
 subst hi0;simp at hi;obtain⟨rfl,rfl⟩:=hi;have hl:=congrArg List.length h8;rw[AY]at hl;have hv:=JX (par:=par) ha k;refine⟨?_,fun x hx=>hv _ (by rw[←h8];exact List.mem_map_of_mem hx)⟩;have:(aL par a k).length≤4:=by
  match k with
  |0|1|2|3|k+4=>simp[aL]
 omega
theorem TV{par a:Nm}{L:List Oc}{ok:Bool}(h:Oy 1 par (aL par a 4) L ok):ok=true∧∃o,L=[o]∧o.value=a:=by
 have hi:CH (xOf 1) 10=[0]:=by decide
 rcases h with⟨rfl,⟨h1,h2⟩,_⟩|⟨rfl,⟨i,hi10,hb,h⟩|h⟩
 ·refine⟨rfl,?_⟩;rw[hi]at h1;rcases L with _|⟨o,_|⟨o',L⟩⟩
  ·simp at h1
  ·simp at h1;obtain⟨L',hL⟩:=h2 o BB;rw[h1]at hL;obtain⟨O,hO,hx,_⟩:=hL;obtain⟨w,hw,w1,w2,w3,w4⟩:=E6 (hx o BB).2 (by decide);have hm:=(hO.2 w hw).1;refine⟨o,rfl,?_⟩;simp[aL]at hm;rcases hm with rfl|rfl|rfl|rfl
   ·simp[a1]at w1
   ·simp[a2]at w1
   ·simp[a3]at w1
   ·exact w4.symm
  ·simp at h1
 ·exfalso;have h0:i=0:=by
   rcases Nat.eq_zero_or_pos i with h|h
   ·exact h
   ·exfalso;have e:xOf 1=2^0:=by decide
    rw[e,Nat.testBit_two_pow]at hb;simp at hb;omega
  subst h0;have:=OA h;cases this
 ·rw[hi]at h;cases h
end
section
open Go.RowKit
attribute [local go_sem ↓] Go.wp_at_zero Go.wp_at_succ An Au Av Aw
attribute [local go_sem] BD BH BI BJ AN AW AQ
theorem TW{g:Nat}{w:World}(s:Stp)(hk:¬s.kind=1∧¬s.kind=2∧¬s.kind=3):Calls Tryz.prog 22 #[Am g,s.val] w fun e w'=>e= .returned (.int .i64 1)∧Below w.heap.size w w':=by
 obtain⟨w1,hw1⟩:∃w1,w1=w.alloc (.cells s.cells 48):=⟨_,rfl⟩;have hb1:Below w.heap.size w w1:=by rw[hw1];exact(AC _ _).alloc (AB _) _
 obtain⟨q,hq⟩:∃q,q=w.heap.size:=⟨_,rfl⟩;have hQ1:Blk w1 q 48 s.cells:=by rw[hw1,hq];exact Blk.new w _ _
 obtain⟨k,hkk⟩:∃k,k=s.kind:=⟨_,rfl⟩;have y3:w1.cell? ⟨q,0,none⟩=some (.int .i64 k):=by rw[hkk];exact hQ1.cell 0
 rw[←hkk]at hk;have e1:(k==1)=false:=by simpa using hk.1
 have e2:(k==2)=false:=by simpa using hk.2.1
 have e3:(k==3)=false:=by simpa using hk.2.2
 have HW1:=AA hw1;have HQ:=AA hq;clear hw1 hq hQ1 hk hkk;go_enter Tryz.func22,Tryz.ntmps22;go_upto_region 3 with fail
 simp only[←HW1.out,←HQ.out];go_wp2;go_ret;exact⟨rfl,hb1⟩
theorem M9:¬Gi Nm.zero 0=Nm.zero:=by unfold Gi;decide+kernel
theorem M5.one{G:GmS}(h:M5 1 0 0 Nm.zero G):AwI (L5 Nm.zero) (Gi Nm.zero 0) 0 G∧(∀(b:Nat) (P:PrS),G.ps=[(b,P)]→P=Ec (0,Gi Nm.zero 0))∧(∃y,G.ks=[y])∧G.sg=[(Bz,[])]:=by
 have hM:G.M=1:=h.M;obtain⟨ms,h1,h2⟩:=h.ps;have hi:CH (xOf (bits .and .i64 1 0)) 10=[]:=by decide
 rw[hM,hi]at h1;have h1':ms=[0]:=h1;subst h1';have h3:G.ps.map (·.2)=[Ec (0,Gi Nm.zero 0)]:=h2;have h4:∃b,G.ps=[(b,Ec (0,Gi Nm.zero 0))]:=by
  rcases hp:G.ps with _|⟨⟨b,P⟩,_|⟨q,l⟩⟩
  ·rw[hp]at h3;simp at h3
  ·rw[hp]at h3;simp only[List.map_cons,List.map_nil,List.cons.injEq,and_true]at h3;exact⟨b,by rw[h3]⟩
  ·rw[hp]at h3;simp at h3
 obtain⟨b,hb⟩:=h4;refine⟨⟨b,_,hb,hM,h.par,rfl,rfl,rfl,rfl,rfl⟩,fun b' P' h=>?_,?_,h.sg⟩
 ·rw[hb]at h;simp only[List.cons.injEq,Prod.mk.injEq,and_true]at h;exact h.2.symm
 ·have h5:=congrArg List.length h.ks;simp at h5;rcases hk:G.ks with _|⟨y,_|⟨z,l⟩⟩
  ·rw[hk]at h5;simp at h5
  ·exact⟨y,rfl⟩
  ·rw[hk]at h5;simp at h5
theorem SO{Bs g b:Nat}{w:World}{G:GmS}{P:PrS}(h:A9 Bs w g G)(hBs:Bs≤w.heap.size)(hG:M5 1 0 0 Nm.zero G)(hp:G.ps[0]? =some (b,P)):Calls Tryz.prog 39 #[Am g,Am b] w fun e w'=>e= .returned (.tuple #[])∧Below Bs w w'∧∃G',A9 Bs w' g G'∧AwI (L5 Nm.zero) (Gi Nm.zero 0) 4 G':=by
 obtain⟨hI,hP,⟨y,hy⟩,hs⟩:=hG.one;obtain⟨b',P',h1,h2,h3,h4,h5,h6,h7,h8⟩:=hI;rw[h1]at hp;injection hp with hp
 injection hp with hp hp'
 subst hp;subst hp';have hPe:=hP b' P' h1;have hD:=AwI.D (k:=0) h8;obtain⟨par,hpar⟩:∃par,par=L5 Nm.zero:=⟨_,rfl⟩;obtain⟨a,ha⟩:∃a,a=Gi Nm.zero 0:=⟨_,rfl⟩;have hne:¬a=Nm.zero:=by rw[ha];exact M9
 rw[←hpar]at h3 h8 hD ⊢;rw[←ha]at h5 h8 hD ⊢;have k:Ep 0 b' 0 0 par 1 a G.ks 0 G P':=⟨by rw[h1];rfl,h4,by rw[hPe],h5,h3,h2,rfl,⟨_,by rw[hs];rfl,Nat.zero_le _⟩,by
  have:=congrArg List.length h8;rw[AY]at this;rw[this];exact Nat.zero_le _,fun x hx=>by
  have:x.vote∈P'.L.map (·.vote):=List.mem_map_of_mem hx;rw[h8]at this;exact absurd this (by simp[aL]),by omega⟩
 have hI0:AwI par a 0 (G.actd 0 b' P'):=⟨b',{P' with acts:=P'.acts+1},by show G.ps.set 0 _=_;rw[h1];rfl,h2,h3,h4,h5,h6,h7,h8⟩;have due:∀{j:Nat} {G1:GmS} {o:Option Vt},1≤j→j≤4→AwI par a j G1→M1 0 G1 o→(j=4∧o=none)∨(j<4∧∃v,o=some v∧aL par a j++[v]=aL par a (j+1)∧Ae v):=fun{j G1 o} hj1 hj4 hA hD=>by
  obtain⟨b1,P1,e1,e2,e3,e4,e5,e6,e7,e8⟩:=hA;obtain⟨b2,P2,f1,f2⟩:=hD;rw[e1]at f1;injection f1 with f1
  injection f1 with f1 f1'
  subst f1;subst f1';rw[e2,e3,e4,(AwI.D e8).1]at f2;exact SN hne hj1 hj4 f2
 have hown:Fm par 0 P'.D=false:=by rw[hD.1];rfl
 refine(N4 (fun G'=>∃j,1≤j∧j≤4∧AwI par a j G') h hBs (by omega) k (by rw[hy];rfl) (by omega) (by omega) ?_ ?_ ?_ ?_).mono ?_
 ·intro h;rw[hown]at h;cases h
 ·intro _ G' hs';exact⟨1,by omega,by omega,hI0.more hs' rfl⟩
 ·intro _ hn;refine absurd ⟨?_,?_⟩ hn
  ·have:=JX (par:=par) hne 1 (a1 par a) (by simp[aL]);exact this
  ·rw[h6];omega
 ·rintro G1 G2 v ⟨j,hj1,hj4,hA⟩ hdue hsg;rcases due hj1 hj4 hA hdue with⟨_,h⟩|⟨h,v',h',hv,_⟩
  ·cases h
  ·injection h' with h'
   subst h';exact⟨j+1,by omega,by omega,hA.more hsg hv⟩
 ·rintro e w' ⟨rfl,hb,G',P'',hG',hK',⟨j,hj1,hj4,hA⟩,hend⟩;refine⟨rfl,hb,G',hG',?_⟩;rcases hend with hend|hend
  ·rcases due hj1 hj4 hA hend with⟨rfl,_⟩|⟨_,v,h,_⟩
   ·exact hA
   ·cases h
  ·exfalso;obtain⟨b1,P1,e1,e2,e3,e4,e5,e6,e7,e8⟩:=hA;have hi:=hK'.hi;rw[e1]at hi;injection hi with hi
   injection hi with _ hi
   subst hi;omega
theorem C4.one{G G':GmS}{par a:Nm}(hI:AwI par a 4 G)(h:C4 G.ps.length G G'):∃(b:Nat) (P:PrS) (c:Ch),G'.ps=[(b,P)]∧P.dd=true∧P.dec=[c]∧c.value=a:=by
 obtain⟨b,P,h1,h2,h3,h4,h5,h6,h7,h8⟩:=hI;obtain⟨ps',rfl,hl,hx⟩:=h;rw[h1]at hl;rcases ps' with _|⟨⟨b',P'⟩,_|⟨q,l⟩⟩
 ·simp at hl
 ·obtain⟨P0,hP0,hd⟩:=hx 0 b' P' rfl;rw[h1]at hP0;injection hP0 with hP0
  injection hP0 with e1 e2
  subst e2;rw[if_pos (by rw[h1];simp)]at hd;obtain⟨v,d,ok,rfl,⟨hd,_⟩|⟨_,L,_,hL,rfl⟩⟩:=hd
  ·rw[h7]at hd;cases hd
  ·rw[h2,h3,(AwI.D h8).1]at hL;obtain⟨rfl,o,rfl,ho⟩:=TV hL;exact⟨b',_,Eo o,rfl,rfl,rfl,ho⟩
 ·simp at hl
theorem FN(w:World):Calls Tryz.prog 13 #[] w fun e w'=>e= .returned (.bool true)∧Below w.heap.size w w':=by
 obtain⟨Bs,hBs⟩:∃Bs,Bs=w.heap.size:=⟨_,rfl⟩;have HNew:Hid (Calls Tryz.prog 27 #[.agg #[.int .i64 1,.int .i64 0,.int .i64 0,.int .u8 0,.int .u8 0,.int .u8 0,.int .u8 0,.int .u8 0,.int .u8 0,.int .u8 0,.int .u8 0]] w fun e w'=>∃g G,e= .returned (.tuple #[Am g,.int .i64 0])∧Below Bs w w'∧A9 Bs w' g G∧M5 1 0 0 Nm.zero G):=by rw[hBs];exact N0 1 (by omega) 0 0 Nm.zero w
 obtain⟨a,ha⟩:∃a,a=Gi Nm.zero 0:=⟨_,rfl⟩;have hne:¬a=Nm.zero:=by rw[ha];exact M9
 have eP:∀W,(Op.equalIn 10000 24 (.agg a.cells) (.agg BG)).run Tryz.prog W= .ok false W:=fun W=>by
  have:=Dz a Nm.zero W 9998;rwa[decide_eq_false hne]at this
 have HDo:Hid (∀V g G,Bs≤V.heap.size→A9 Bs V g G→M5 1 0 0 Nm.zero G→Calls Tryz.prog 22 #[Am g,.agg #[.int .i64 1,.int .i64 0,.int .i64 0,.int .i64 0,.int .i64 0,.int .i64 0,.int .i64 0,.int .i64 0,.int .i64 0,.int .u8 0,.int .u8 0,.int .u8 0,.int .u8 0,.int .u8 0,.int .u8 0,.int .u8 0,.int .u8 0,.int .u8 0,.int .u8 0,.int .u8 0,.int .u8 0,.int .u8 0,.int .u8 0,.int .u8 0,.int .u8 0]] V fun e w'=>e= .returned (.int .i64 0)∧Below Bs V w'∧∃G' b P c,A9 Bs w' g G'∧G'.ps=[(b,P)]∧P.dd=true∧P.dec=[c]∧c.value=a):=fun V g G hV hG hN=>by
  obtain⟨⟨b,P,h1,_⟩,_⟩:=hN.one;refine(Qo ⟨1,0,0,⟨0,0,0,0,0,0,Nm.zero,Nm.zero⟩⟩ (AwI (L5 Nm.zero) (Gi Nm.zero 0) 4) hG hV (by rw[h1];simp) (fun _ p b' P' V' hp0 hP' hV' hB'=>?_) (fun h=>absurd h (by decide)) (fun h=>absurd h (by decide)) (fun G' hG'=>hG'.good M9 (by omega))).mono ?_
  ·have e0:p=0:=by have:(0:Int)=(p:Int):=hp0;omega
   subst e0;exact(SO hV' hB' hN hP').mono fun e w' ⟨a1,a2,a3⟩=>⟨a1,a2,fun h=>absurd h (by decide),a3⟩
  rintro e w' ⟨hb,_,⟨rfl,G',G'',hI,hT,hG''⟩|⟨_,_,h,_⟩⟩;rotate_left
  ·have:=h rfl;rw[h1]at this;simp at this
  obtain⟨b,P,c,h1,h2,h3,h4⟩:=hT.one hI;exact⟨rfl,hb,G'',b,P,c,hG'',h1,h2,h3,by rw[h4,ha]⟩
 have HBs:=AA hBs;have hBw:Bs≤w.heap.size:=by omega
 clear hBs ha hne;go_enter Tryz.func13,Tryz.ntmps13;go_upto_region 2 with(go_at_call 27;refine HNew.out.mono ?_;rintro en w1 ⟨g,G,rfl,hb1,hG1,hN1⟩;have HG1:=AA hG1;have HN1:=AA hN1;clear hG1 hN1)
 have hBs1:Bs≤w1.heap.size:=AF hBw hb1.size;have HDo1:=AA (HDo.out w1 g G hBs1 HG1.out HN1.out);clear HNew HDo;go_upto_region 5 with(go_at_call 22;refine HDo1.out.mono ?_;rintro en w2 ⟨rfl,hb2,G2,b,P,c,hG2,hps,hdd,hdec,hcv⟩)
 have hb02:Below Bs w w2:=hb1.trans hb2;have hBs2:Bs≤w2.heap.size:=AF hBs1 hb2.size;have HDc:Hid (Calls Tryz.prog 18 #[Am g,.int .i64 0] w2 fun e w'=>∃ab cc,e= .returned (.tuple #[.slice (some ⟨ab,0,none⟩) 1 cc,.bool true])∧Below w2.heap.size w2 w'∧AK w' ab 1 8=some a.cells):=by
  have h1:G2.ps[0]? =some (b,P):=by rw[hps];rfl
  refine(Gg hG2 h1 (by rw[hdec];simp)).mono ?_;rintro e w' ⟨v,rfl,hb,hown,_⟩;have hown:=hown hdd;rw[hdec]at hown;rcases hown.2 with⟨_,h0⟩|⟨ab,cap,cur,rfl,_,hh,_,_,hsz,htk⟩
  ·cases h0
  ·refine⟨ab,cap,by rw[hdd];rfl,hb,?_⟩;rw[←hcv];refine Bo (fun j u hu=>?_) rfl;have hj:j<8:=(AG.1 hu).1;rw[Blk.cell (show Blk w' ab 88 cur from hh)];have h2:(cur.toList.take (1*9))[1+j]? =some u:=by
    rw[show cur.toList.take (1*9)=[c].flatMap chc from htk];rcases(by omega:j=0∨j=1∨j=2∨j=3∨j=4∨j=5∨j=6∨j=7)with rfl|rfl|rfl|rfl|rfl|rfl|rfl|rfl <;> exact hu
   rw[Bf,if_pos (by omega)]at h2;simpa using h2
 have HPr:Hid (∀V,Below w2.heap.size w2 V→Calls Tryz.prog 17 #[Am g] V fun e w'=>e= .returned (.int .i64 1)∧w'=V):=fun V hV=>by
  have:=CK (hG2.below hV);rw[hps]at this;exact this
 have HD0:Hid (∀V,Calls Tryz.prog 22 #[Am g,.agg #[.int .i64 0,.int .i64 0,.int .i64 0,.int .i64 0,.int .i64 0,.int .i64 0,.int .i64 0,.int .i64 0,.int .i64 0,.int .u8 0,.int .u8 0,.int .u8 0,.int .u8 0,.int .u8 0,.int .u8 0,.int .u8 0,.int .u8 0,.int .u8 0,.int .u8 0,.int .u8 0,.int .u8 0,.int .u8 0,.int .u8 0,.int .u8 0,.int .u8 0]] V fun e w'=>e= .returned (.int .i64 1)∧Below V.heap.size V w'):=fun V=>TW ⟨0,0,0,⟨0,0,0,0,0,0,Nm.zero,Nm.zero⟩⟩ (by simp)
 clear hG2 hps hdd hdec hcv HG1 HN1 HDo1 hb1 hb2;go_upto_region 6 with(go_at_call 18;refine HDc.out.mono ?_;rintro en w3 ⟨ab,cc,rfl,hb3,x3⟩)
 have hb03:Below Bs w w3:=hb02.trans (hb3.mono hBs2);go_wp2_with (first
  |(go_at_call 17;refine(HPr.out _ hb3).mono ?_;rintro en w4 ⟨rfl,hw4⟩;replace hw4:=hw4.symm;subst hw4)
  |(go_at_call 22;refine(HD0.out _).mono ?_;rintro en w5 ⟨rfl,hb5⟩)
  |fail)
 go_ret;exact⟨rfl,by rw[←HBs.out];exact hb03.trans (hb5.mono (AF hBs2 hb3.size))⟩
end
end Go.Proofs.YtadllffeoibelaaGreat
