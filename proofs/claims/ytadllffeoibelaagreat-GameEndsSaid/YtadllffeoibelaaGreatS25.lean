/-
  Parts of the proof. No condition.
-/
import Derived.Test.YtadllffeoibelaaGreatS24
namespace Go.Proofs.YtadllffeoibelaaGreat
set_option maxRecDepth 100000
set_option maxHeartbeats 32000000
set_option linter.all false
section
open Go.RowKit
section
variable {M:Int}{q h K:Nat}{cv:Int->List Vt->Vl->Prop}{V O:Nat->List Vt}{W OW:Nat->Nat->List Vt}
theorem JH{D:List Vt}{i:Nat}{r:Int}{t:Nat}(ht:(t:Int)=2*r-1):Own D i 3 r↔St D i t:=by
 constructor
 ·rintro⟨u,hu,h1,h2,h3⟩;exact⟨u,hu,h1,.inl h2,by unfold sg;omega⟩
 ·rintro⟨u,hu,h1,h2,h3⟩;unfold sg at h3;rcases h2 with e|e
  ·exact⟨u,hu,h1,e,by omega⟩
  ·omega
theorem Oz{D:List Vt}{i:Nat}{r:Int}{t:Nat}(ht:(t:Int)=2*r):Own D i 4 r↔St D i t:=by
 constructor
 ·rintro⟨u,hu,h1,h2,h3⟩;exact⟨u,hu,h1,.inr h2,by unfold sg;omega⟩
 ·rintro⟨u,hu,h1,h2,h3⟩;unfold sg at h3;rcases h2 with e|e
  ·omega
  ·exact⟨u,hu,h1,e,by omega⟩
theorem Nt{pr pr':Vt->Bool}{O:List Vt}(h:∀v∈O,pr v=true->pr' v=true):B0 pr O<=B0 pr' O:=Ju fun v hv hp=>⟨v,hv,h v hv hp,rfl⟩
theorem GR{pr:Vt->Bool}{O O':List Vt}(h:∀v∈O,pr v=true->v∈O'):B0 pr O<=B0 pr O':=Ju fun v hv hp=>⟨v,h v hv hp,hp,rfl⟩
theorem Run.step(R:Run M q h K cv V O W OW){k i t:Nat}(hk:k<K)(hi:Hn h i)(ht:1<=t/\t<24)(hs:St (W i k) i t)(hc:q<=B0 (pSt t) (OW i k)):St (W i k) i (t+1):=by
 have hO:=R.accW k hk i hi.1 hi.2;have zK:∀v∈W i k,v∈V K:=fun v hv=>R.le hk (AB _) v ((R.sub k hk i hi.1 hi.2).2 v hv)
 have yC:∀v∈OW i k,AW v:=fun v hv=>(R.okW hk hi v (hO.sub v hv)).1
 have hr:=R.rest k hk i hi.1 hi.2;rcases(by omega:t%2=1∨t%2=0)with e|e
 ·have e1:(t:Int)=2*(((t+1)/2:Nat):Int)-1:=by omega
  rcases hr.prec (((t+1)/2:Nat):Int) (by omega) (by omega) ((JH e1).2 hs)with h1|h1
  ·exact(Oz (by omega)).1 h1
  ·exfalso;have:B0 (pSt t) (OW i k)<=B0 (pA 3 (((t+1)/2:Nat):Int)) (OW i k):=Nt fun v _ hp=>by
    obtain⟨h2,h3⟩:=H6.1 hp;unfold sg at h3;rcases h2 with h2|h2
    ·exact Nq.2 ⟨h2,by omega⟩
    ·omega
   omega
 ·obtain⟨r,hr0⟩:∃r:Int,r=((t/2:Nat):Int):=⟨_,rfl⟩;have e1:(t:Int)=2*r:=by omega
  have kd:∀v,pSt t v=true->v.kind=4/\v.round=r:=fun v hp=>by
   obtain⟨h2,h3⟩:=H6.1 hp;unfold sg at h3;rcases h2 with h2|h2
   ·omega
   ·exact⟨h2,by omega⟩
  rcases hr.prev r (by omega) (by omega) ((Oz e1).2 hs)with h1|⟨h1,h2⟩
  ·exact(JH (by omega)).1 h1
  ·exfalso;by_cases hx:∃w∈OW i k,(w.kind=4/\w.round=r)/\w.choice≠2
   ·obtain⟨w,hw,⟨w1,w2⟩,w3⟩:=hx;have h3:=h1 (Bh w) ⟨w,hw,w1,w2,w3,rfl⟩;have:B0 (pSt t) (OW i k)<=B0 (fun u=>pV 4 r (Bh w) u||pM 4 r u) (OW i k):=Nt fun v hv hp=>by
     obtain⟨a,b⟩:=kd v hp;rw[Bool.or_eq_true];by_cases hm:v.choice=2
     ·exact .inr (En.2 ⟨a,b,hm⟩)
     ·exact .inl (B3.2 ⟨a,b,R.one4 zK hO hv hw a w1 (by omega) hm w3⟩)
    omega
   ·have hm:∀v∈OW i k,pSt t v=true->pM 4 r v=true:=fun v hv hp=>by
     obtain⟨a,b⟩:=kd v hp;exact En.2 ⟨a,b,Classical.byContradiction fun hn=>hx ⟨v,hv,⟨a,b⟩,hn⟩⟩
    have hle:=Nt hm;rcases h2 with h2|h2
    ·omega
    ·obtain⟨j,_,hb⟩:=Bq 10 (Nat.lt_of_lt_of_le R.q0 hc);obtain⟨w,hw,_,w2⟩:=Dp yC hb;obtain⟨a,b,c⟩:=En.1 (hm w hw w2);obtain⟨_,u,hu,_,_,⟨u1,u2⟩,_⟩:=((hO.fix w (hO.sub w hw)).1 hw).2.mix a c;have:=((yC u hu).2.2.2.2.2.1 u1).2.2.1;exact h2 (Bh u) ⟨u,hu,u1,by omega,by omega,rfl⟩
theorem Run.upper(R:Run M q h K cv V O W OW)(F:Ns M q h){k i t:Nat}(hk:k<K)(hi:Hn h i)(hs:St (W i k) i (t+1))(hn:¬St (V k) i (t+1))(ht:1<=t):∃j,Hn h j/\St (V k) j t:=by
 obtain⟨v,hv,h1,h2,h3⟩:=hs;have hnv:¬v∈V k:=fun hc=>hn ⟨v,hc,h1,h2,h3⟩
 obtain⟨_,hr⟩:=R.own k hk i hi.1 hi.2 v hv hnv;obtain⟨D,OD,_,hD,r⟩:=hr (by unfold Pc at h2;omega);have hDW:Ok4 D:=fun w hw=>R.okW hk hi w (hD w hw)
 have yC:∀w∈OD,AW w:=fun w hw=>(hDW w (r.acc.sub w hw)).1
 have fin:∀{pr:Vt->Bool},q<=B0 pr OD->(∀w,pr w=true->Pc w/\sg w=(t:Int))->∃j,Hn h j/\St (V k) j t:=fun{pr} hc hf=>by
  obtain⟨j,j1,j2,j3,j4⟩:=F _ (FT r.acc) hc i;obtain⟨w,hw,w1,w2⟩:=Dp yC j3;obtain⟨w3,w4⟩:=hf w w2;refine⟨j,⟨j1,j4⟩,w,Classical.byContradiction fun hc=>?_,w1,w3,w4⟩;have:=(R.own k hk i hi.1 hi.2 w (hD w (r.acc.sub w hw)) hc).1;omega
 unfold sg at h3;rcases h2 with e|e
 ·obtain⟨_,⟨_,hc⟩|⟨_,hc,_⟩⟩:=r.prev e (by omega)
  ·refine fin hc fun w hw=>?_
   rw[Bool.or_eq_true]at hw;rcases hw with hw|hw
   ·obtain⟨a,b,_⟩:=B3.1 hw;exact⟨.inr a,by unfold sg;omega⟩
   ·obtain⟨a,b,_⟩:=En.1 hw;exact⟨.inr a,by unfold sg;omega⟩
  ·exact fin hc fun w hw=>by obtain⟨a,b,_⟩:=En.1 hw;exact⟨.inr a,by unfold sg;omega⟩
 ·obtain⟨_,⟨_,hc⟩|⟨_,_,hc⟩⟩:=r.prec e
  ·exact fin hc fun w hw=>by obtain⟨a,b,_⟩:=B3.1 hw;exact⟨.inl a,by unfold sg;omega⟩
  ·exact fin hc fun w hw=>by obtain⟨a,b⟩:=Nq.1 hw;exact⟨.inl a,by unfold sg;omega⟩
theorem Run.fresh(R:Run M q h K cv V O W OW){k i:Nat}(hk:k<K){v:Vt}(hv:v∈V (k+1))(hn:¬v∈V k)(hs:v.signer=(i:Int)):Hn h i/\v∈W i k:=by
 obtain⟨j,j1,j2,hw⟩:=R.cup k hk v hv;have:=(R.own k hk j j1 j2 v hw hn).1;have e:j=i:=by omega
 subst e;exact⟨⟨j1,j2⟩,hw⟩
theorem Run.upV(R:Run M q h K cv V O W OW)(F:Ns M q h){k t:Nat}(hk:k<K)(ht:1<=t)(hn:∀i,Hn h i->¬St (V k) i t):∀i,Hn h i->¬St (V (k+1)) i (t+1):=fun i hi hs=>by
 have hn1:¬St (V k) i (t+1):=fun hc=>hn i hi (R.down (by omega) hi ht hc)
 obtain⟨v,hv,h1,h2,h3⟩:=hs;obtain⟨_,hw⟩:=R.fresh hk hv (fun hc=>hn1 ⟨v,hc,h1,h2,h3⟩) h1;obtain⟨j,hj,hjs⟩:=R.upper F hk hi ⟨v,hw,h1,h2,h3⟩ hn1 ht;exact hn j hj hjs
theorem Run.all(R:Run M q h K cv V O W OW){k t:Nat}(hk:k<=K)(ha:∀i,Hn h i->St (V k) i t):q<=B0 (pSt t) (O k):=by
 refine AG R.hq (D5 fun i hi hb=>?_);obtain⟨v,hv,h1,h2,h3⟩:=ha i ⟨hi,hb⟩;exact⟨v,(R.inv k hk v hv i ⟨hi,hb⟩ h1 h2).1,h1,H6.2 ⟨h2,h3⟩⟩
theorem Run.catch(R:Run M q h K cv V O W OW){k j:Nat}(hk:k<K)(hk2:2<=k)(hj:Hn h j):∀t,1<=t->t<=24->St (V k) j t->∀i,Hn h i->St (W i k) i t:=by
 intro t
 induction t with
 |zero=>intro h0;omega
 |succ t ih=>
  intro _ h24 hs i hi;rcases Nat.eq_zero_or_pos t with h0|h0
  ·subst h0;exact(JH (r:=1) (by omega)).1 ((R.rest k hk i hi.1 hi.2).first hk2)
  ·have h1:=ih h0 (by omega) (R.down (by omega) hj h0 hs) i hi;refine R.step hk hi ⟨h0,by omega⟩ h1 (AG ?_ (GR fun v hv _=>R.leW hk hi v hv));obtain⟨v,hv,s1,s2,s3⟩:=hs;exact(R.acc k (by omega)).below (R.inv k (by omega) v hv j hj s1 s2).1 s2 s3 h0
theorem Run.next(R:Run M q h K cv V O W OW){k t:Nat}(hk:k<K)(ht:1<=t/\t<24)(ha:∀i,Hn h i->St (V k) i t):∀i,Hn h i->St (W i k) i (t+1):=fun i hi=>
 R.step hk hi ht ((ha i hi).mono (R.sub k hk i hi.1 hi.2).1) (AG (R.all (by omega) ha) (GR fun v hv _=>R.leW hk hi v hv))
theorem Run.inV(R:Run M q h K cv V O W OW){k i t:Nat}(hk:k<K)(hi:Hn h i)(hs:St (W i k) i t):St (V (k+1)) i t:=hs.mono (R.sub k hk i hi.1 hi.2).2
theorem Run.prog(R:Run M q h K cv V O W OW):∀t,1<=t->t<=24->2+t<=K->∀i,Hn h i->St (V (2+t)) i t:=by
 intro t
 induction t with
 |zero=>intro h0;omega
 |succ t ih=>
  intro _ h24 hK i hi;rcases Nat.eq_zero_or_pos t with h0|h0
  ·subst h0;exact R.inV (k:=2) (by omega) hi ((JH (r:=1) (by omega)).1 ((R.rest 2 (by omega) i hi.1 hi.2).first (AB _)))
  ·exact R.inV (k:=2+t) (by omega) hi (R.next (by omega) ⟨h0,by omega⟩ (ih h0 (by omega) (by omega)) i hi)
theorem Run.liar(R:Run M q h K cv V O W OW){k:Nat}:∀d,k+d<=K->∀v∈V (k+d),(∀i,Hn h i->v.signer≠(i:Int))->v∈V k
 |0,_,v,hv,_=>hv
 |d+1,hd,v,hv,hn=>by
  refine R.liar d (by omega) v (Classical.byContradiction fun hc=>?_) hn;obtain⟨j,j1,j2,hw⟩:=R.cup (k+d) (by omega) v hv;exact hn j ⟨j1,j2⟩ (R.own (k+d) (by omega) j j1 j2 v hw hc).1
theorem Run.early(R:Run M q h K cv V O W OW){k:Nat}(hk2:2<=k):∀d,k+d<=K->∀v∈V (k+d),v.kind<=2->v∈V k
 |0,_,v,hv,_=>hv
 |d+1,hd,v,hv,hkd=>by
  refine R.early hk2 d (by omega) v (Classical.byContradiction fun hc=>?_) hkd;have hkK:k+d<K:=by omega
  obtain⟨i,j1,j2,hw⟩:=R.cup (k+d) hkK v hv;obtain⟨h1,h2⟩:=R.own (k+d) hkK i j1 j2 v hw hc;have hk1:v.kind≠1:=fun e=>hc (R.prop (k+d) hkK (by omega) i j1 j2 v hw e)
  have e2:v.kind=2:=by have:=(R.okW hkK ⟨j1,j2⟩ v hw).1.1;omega
  obtain⟨D,OD,hVD,hDW,r⟩:=h2 hk1;obtain⟨m,hm⟩:∃m,k+d=m+1:=⟨k+d-1,by omega⟩;rw[hm]at hVD hDW hkK;have hmK:m<K:=by omega
  rcases(R.rest m hmK i j1 j2).echo with h3|h3
  ·obtain⟨u,hu,u1,u2,u3⟩:=h3;have e0:=((R.okW (by omega:k+d<K) ⟨j1,j2⟩ v hw).1.2.2.2.2.1 (.inr e2)).2.1;exact r.new ⟨u,hVD u ((R.sub m hmK i j1 j2).2 u hu),u1,by omega,by omega⟩
  ·obtain⟨w,hw2,w1,_⟩:=r.alw.echo e2;have a1:=R.prop (m+1) hkK (by omega) i j1 j2 w (hDW w (r.acc.sub w hw2)) w1;have a2:w∈V m:=by
    obtain⟨j,b1,b2,b3⟩:=R.cup m hmK w a1;exact R.prop m hmK (by omega) j b1 b2 w b3 w1
   have hx:=(r.acc.fix w (r.acc.sub w hw2)).1 hw2;have hWm:=(R.sub m hmK i j1 j2).1 w a2;refine h3 w (((R.accW m hmK i j1 j2).fix w hWm).2 ⟨hx.1,⟨hx.2.prop,fun e=>?_,fun e=>?_,fun e=>?_,fun e=>?_,fun e=>?_⟩⟩) w1 <;> omega
theorem Run.fin(R:Run M q h K cv V O W OW){k k' t:Nat}(hk2:2<=k)(hkk:k<=k')(hK:k'<=K)(ha:∀i,Hn h i->St (V k) i t){l Ol:List Vt}(hl:∀v∈l,v∈V k')(hO:B6 M q l Ol){v:Vt}(hv:v∈Ol)(hs:(Pc v/\sg v<=(t:Int))∨(Pc v/\sg v<=(t+1:Nat)/\v∈V k)):v∈O k:=by
 have hok:Ok4 l:=fun w hw=>R.ok k' hK w (hl w hw)
 have key:∀w∈l,Pc w->sg w<=(t:Int)->w∈V k:=fun w hw hp hsg=>by
  by_cases hh:∃i,Hn h i/\w.signer=(i:Int)
  ·obtain⟨i,hi,h1⟩:=hh;obtain⟨_,_,g1,g2⟩:=VA (hok w hw).1 hp;obtain⟨u,hu,u1,u2,u3⟩:=R.at_le (t:=(sg w).toNat) (by omega) hi (by omega) (by omega) (ha i hi);have:u=w:=R.uniq u (R.le (by omega) (AB _) u hu) w (R.le hK (AB _) w (hl w hw)) i hi.1 hi.2 u1 h1 (by unfold sg at u3 g1 g2;unfold Pc at hp u2;omega) (by unfold sg at u3 g1 g2;unfold Pc at hp u2;omega);exact this▸hu
  ·have:=R.liar (k:=k) (k'-k) (by omega) w (by rw[show k+(k'-k)=k' from by omega];exact hl w hw) (fun i hi e=>hh ⟨i,hi,e⟩);exact this
 have low:∀w∈l,(w.kind<=2∨(Pc w/\sg w<=(t:Int)))->w∈V k:=fun w hw hc=>by
  rcases hc with hc|hc
  ·exact R.early (k:=k) hk2 (k'-k) (by omega) w (by rw[show k+(k'-k)=k' from by omega];exact hl w hw) hc
  ·exact key w hw hc.1 hc.2
 have hp:Pc v:=by rcases hs with h|h <;> exact h.1
 refine hO.carry' hok (R.acc k (by omega)) hv ?_ fun w hw hr=>low w hw ?_
 ·rcases hs with h|h
  ·exact key v (hO.sub v hv) h.1 h.2
  ·exact h.2.2
 ·have hle:sg v<=(t+1:Nat):=by
   rcases hs with h|h
   ·have:=h.2;omega
   ·exact h.2.1
  have a:=(hok w hw);have b:=a.1.1;unfold rk at hr;unfold sg at hle ⊢;unfold Pc at hp ⊢;omega
end
section
variable {M:Int}{q h K:Nat}{cv:Int->List Vt->Vl->Prop}{V O:Nat->List Vt}{W OW:Nat->Nat->List Vt}
theorem Gj.mono{O O':List Vt}(ho:Gj q O)(hs:∀v∈O,v∈O'):Gj q O':=by
 obtain⟨r,x,h1,h2⟩:=ho;exact⟨r,x,h1,AG h2 (GR fun v hv _=>hs v hv)⟩
def QN(h:Nat)(V:Nat->List Vt)(k t:Nat):Prop:=(∀i,Hn h i->St (V k) i t)/\∀i,Hn h i->¬St (V k) i (t+1)
theorem Run.sync1(R:Run M q h K cv V O W OW)(F:Ns M q h){k t:Nat}(hk:k<K)(ht:1<=t/\t<24)(hs:QN h V k t):QN h V (k+1) (t+1):=
 ⟨fun i hi=>R.inV hk hi (R.next hk ht hs.1 i hi),R.upV F hk (by omega) hs.2⟩
theorem Run.signed(R:Run M q h K cv V O W OW){m i:Nat}(hi:Hn h i):∀d,m+d<=K->∀v∈V (m+d),¬v∈V m->v.signer=(i:Int)->v.kind≠1->
  ∃D OD,(∀w∈V m,w∈D)/\(∀w∈D,w∈V (m+d))/\Ix M q cv i D OD v
 |0,_,v,hv,hn,_,_=>absurd hv hn
 |d+1,hd,v,hv,hn,hs,hk1=>by
  by_cases hin:v∈V (m+d)
  ·obtain⟨D,OD,h1,h2,h3⟩:=R.signed hi d (by omega) v hin hn hs hk1;exact⟨D,OD,h1,fun w hw=>R.up1 (k:=m+d) (by omega) w (h2 w hw),h3⟩
  ·have hK:m+d<K:=by omega
   obtain⟨_,hw⟩:=R.fresh hK hv hin hs;obtain⟨D,OD,h1,h2,h3⟩:=(R.own (m+d) hK i hi.1 hi.2 v hw hin).2 hk1;exact⟨D,OD,fun w hw=>h1 w (R.le (by omega) (by omega) w hw),fun w hw=>(R.sub (m+d) hK i hi.1 hi.2).2 w (h2 w hw),h3⟩
theorem Run.signedK(R:Run M q h K cv V O W OW){m i:Nat}(hm:m<=K)(hi:Hn h i){v:Vt}(hv:v∈V K)(hn:¬v∈V m)(hs:v.signer=(i:Int))(hp:Pc v):∃D OD,(∀w∈V m,w∈D)/\(∀w∈D,w∈V K)/\Ix M q cv i D OD v:=by
 have:=R.signed hi (m:=m) (K-m) (by omega) v (by rwa[show m+(K-m)=K from by omega]) hn hs (by unfold Pc at hp;omega);rwa[show m+(K-m)=K from by omega]at this
theorem Run.finD(R:Run M q h K cv V O W OW){k t:Nat}(hk2:2<=k)(hK:k<=K)(ha:∀i,Hn h i->St (V k) i t){D OD:List Vt}(h1:∀w∈V k,w∈D)(h2:∀w∈D,w∈V K)(hO:B6 M q D OD){w:Vt}(hp:Pc w)(hs:sg w<=(t:Int)):w∈OD↔w∈O k:=
 ⟨fun hw=>R.fin hk2 hK (AB _) ha h2 hO hw (.inl ⟨hp,hs⟩),fun hw=>(R.acc k hK).mono (R.ok k hK) hO h1 w hw⟩
theorem Fw{pr:Vt->Bool}{O O':List Vt}(h:∀w,pr w=true->(w∈O↔w∈O')):B0 pr O=B0 pr O':=
 Nat.le_antisymm (GR fun w hw hp=>(h w hp).1 hw) (GR fun w hw hp=>(h w hp).2 hw)
theorem Jv{v:Vt}(hv:AW v)(hc:v.choice=2):v.value=Nm.zero:=Classical.byContradiction fun hn=>by
 have:=hv.2.2.1.2 hn;omega
theorem Run.alike(R:Run M q h K cv V O W OW){i i' t:Nat}{v v':Vt}{D OD D' OD':List Vt}(r:Ix M q cv i D OD v)(r':Ix M q cv i' D' OD' v')(hD:∀w∈D,w∈V K)(hD':∀w∈D',w∈V K)(hv:AW v)(hv':AW v')(hp:Pc v)(hk:v.kind=v'.kind)(hr:v.round=v'.round)(ht:1<=t)(hs:sg v=(t+1:Nat))(he:∀w,Pc w->sg w<=(t:Int)->(w∈OD↔w∈OD')):Bh v=Bh v':=by
 unfold sg at hs;rcases hp with e|e
 ·have iv:∀x,Bp 4 (v.round-1) OD x↔Bp 4 (v.round-1) OD' x:=fun x=>by
   constructor
   ·rintro⟨w,hw,a,b,c,d⟩;exact⟨w,(he w (.inr a) (by unfold sg;omega)).1 hw,a,b,c,d⟩
   ·rintro⟨w,hw,a,b,c,d⟩;exact⟨w,(he w (.inr a) (by unfold sg;omega)).2 hw,a,b,c,d⟩
  have ct:∀x,B0 (fun w=>pV 4 (v.round-1) x w||pM 4 (v.round-1) w) OD=B0 (fun w=>pV 4 (v.round-1) x w||pM 4 (v.round-1) w) OD':=fun x=>Fw fun w hw=>by
   rw[Bool.or_eq_true]at hw;rcases hw with hw|hw
   ·obtain⟨a,b,_⟩:=B3.1 hw;exact he w (.inr a) (by unfold sg;omega)
   ·obtain⟨a,b,_⟩:=En.1 hw;exact he w (.inr a) (by unfold sg;omega)
  have p:=(r.prev e (by omega)).2;have p':=(r'.prev (by omega) (by omega)).2;rw[<-hr]at p';rcases p with⟨a,b⟩|⟨a,b,c⟩ <;> rcases p' with⟨a',b'⟩|⟨a',b',c'⟩
  ·obtain⟨w,hw,w1,w2,w3,w4⟩:=a;obtain⟨u,hu,u1,u2,u3,u4⟩:=(iv _).2 a';rw[<-w4,<-u4];exact R.one4 hD r.acc hw hu w1 u1 (by omega) w3 u3
  ·have:=a' _ ((iv _).1 a);have:=ct (Bh v);omega
  ·have:=a _ ((iv _).2 a');have:=ct (Bh v');omega
  ·refine R.car _ _ _ _ _ _ _ r.acc r'.acc hD hD' c c' fun z=>?_
   constructor
   ·rintro⟨w,hw,a,b,c,d⟩;exact⟨w,(he w (.inl a) (by unfold sg;omega)).1 hw,a,b,c,d⟩
   ·rintro⟨w,hw,a,b,c,d⟩;exact⟨w,(he w (.inl a) (by unfold sg;omega)).2 hw,a,b,c,d⟩
 ·have ct:∀x,B0 (pV 3 v.round x) OD=B0 (pV 3 v.round x) OD':=fun x=>Fw fun w hw=>by
   obtain⟨a,b,_⟩:=B3.1 hw;exact he w (.inl a) (by unfold sg;omega)
  have p:=(r.prec e).2;have p':=(r'.prec (by omega)).2;rw[<-hr]at p';rcases p with⟨a,b⟩|⟨a,b,c⟩ <;> rcases p' with⟨a',b'⟩|⟨a',b',c'⟩
  ·exact R.one hD r.acc b (by rw[ct];exact b')
  ·have:=b' (Bh v);have:=ct (Bh v);omega
  ·have:=b (Bh v');have:=ct (Bh v');omega
  ·unfold Bh;rw[a,a',Jv hv a,Jv hv' a']
theorem R0{v w:Vt}(hv:Pc v)(hw:Pc w)(h:sg v=sg w):v.kind=w.kind/\v.round=w.round:=by
 unfold sg at h;unfold Pc at hv hw;omega
theorem Run.uni1(R:Run M q h K cv V O W OW){k t:Nat}(hk2:2<=k)(hk:k<K)(ht:1<=t)(hs:QN h V k t){i i':Nat}(hi:Hn h i)(hi':Hn h i'){v v':Vt}(hv:v∈V (k+1))(hv':v'∈V (k+1))(s:v.signer=(i:Int))(s':v'.signer=(i':Int))(hp:Pc v)(hp':Pc v')(g:sg v=(t+1:Nat))(g':sg v'=(t+1:Nat)):Bh v=Bh v':=by
 obtain⟨_,hw⟩:=R.fresh hk hv (fun hc=>hs.2 i hi ⟨v,hc,s,hp,g⟩) s;obtain⟨_,hw'⟩:=R.fresh hk hv' (fun hc=>hs.2 i' hi' ⟨v',hc,s',hp',g'⟩) s';obtain⟨D,OD,a,b,c⟩:=(R.own k hk i hi.1 hi.2 v hw (fun hc=>hs.2 i hi ⟨v,hc,s,hp,g⟩)).2 (by unfold Pc at hp;omega);obtain⟨D',OD',a',b',c'⟩:=(R.own k hk i' hi'.1 hi'.2 v' hw' (fun hc=>hs.2 i' hi' ⟨v',hc,s',hp',g'⟩)).2 (by unfold Pc at hp';omega);have hD:∀w∈D,w∈V K:=fun w hw=>R.le hk (AB _) w ((R.sub k hk i hi.1 hi.2).2 w (b w hw))
 have hD':∀w∈D',w∈V K:=fun w hw=>R.le hk (AB _) w ((R.sub k hk i' hi'.1 hi'.2).2 w (b' w hw))
 obtain⟨e1,e2⟩:=R0 hp hp' (g.trans g'.symm);exact R.alike c c' hD hD' (R.ok _ hk v hv).1 (R.ok _ hk v' hv').1 hp e1 e2 ht g fun w wp ws=>(R.finD hk2 (by omega) hs.1 a hD c.acc wp ws).trans (R.finD hk2 (by omega) hs.1 a' hD' c'.acc wp ws).symm
theorem Run.prevOut(R:Run M q h K cv V O W OW){k r:Nat}(hk:k<K)(hr:1<=r/\r<=12)(hs:QN h V k (2*r-1)){y:Vl}(hy:∀i,Hn h i->∀v∈V k,v.signer=(i:Int)->Pc v->sg v=((2*r-1:Nat):Int)->Bh v=y):Gj q (O (k+1)):=by
 have all:∀i,Hn h i->∃v∈O (k+1),v.signer=(i:Int)/\v.choice≠2/\pV 4 (r:Int) y v=true:=fun i hi=>by
  obtain⟨v,hv,s,hp,g⟩:=R.next hk (by omega) hs.1 i hi;have hn:¬v∈V k:=fun hc=>hs.2 i hi ⟨v,hc,s,hp,g⟩
  have e4:v.kind=4/\v.round=(r:Int):=by unfold sg at g;unfold Pc at hp;omega
  obtain⟨D,OD,a,b,c⟩:=(R.own k hk i hi.1 hi.2 v hv hn).2 (by omega);have hq:q<=B0 (pV 3 v.round y) OD:=by
   refine AG R.hq (D5 fun j hj hb=>?_);obtain⟨u,hu,u1,u2,u3⟩:=hs.1 j ⟨hj,hb⟩;refine⟨u,(R.acc k (by omega)).mono (R.ok k (by omega)) c.acc a u (R.inv k (by omega) u hu j ⟨hj,hb⟩ u1 u2).1,u1,B3.2 ⟨?_,?_,hy j ⟨hj,hb⟩ u hu u1 u2 u3⟩⟩ <;> (unfold sg at u3;unfold Pc at u2;omega)
  have hD:∀w∈D,w∈V K:=fun w hw=>R.le hk (AB _) w ((R.sub k hk i hi.1 hi.2).2 w (b w hw))
  have hv1:=(R.sub k hk i hi.1 hi.2).2 v hv;rcases(c.prec e4.1).2 with⟨p1,p2⟩|⟨_,p2,_⟩
  ·exact⟨v,(R.inv (k+1) hk v hv1 i hi s hp).1,s,p1,B3.2 ⟨e4.1,e4.2,R.one hD c.acc p2 hq⟩⟩
  ·have:=p2 y;omega
 obtain⟨i,hi⟩:=R.someone;obtain⟨v,_,_,hc,hp⟩:=all i hi;refine⟨(r:Int),y,by rw[<-(B3.1 hp).2.2];exact hc,AG R.hq (D5 fun j hj hb=>?_)⟩;obtain⟨u,hu,u1,_,u2⟩:=all j ⟨hj,hb⟩;exact⟨u,hu,u1,u2⟩
theorem Run.syncOut(R:Run M q h K cv V O W OW)(F:Ns M q h){k t:Nat}(hk2:2<=k)(hk:k+3<=K)(ht:1<=t/\t+3<=24)(hs:QN h V k t):Gj q (O K):=by
 have go:∀k t,2<=k->k+2<=K->1<=t->t+2<=24->t%2=0->QN h V k t->Gj q (O K):=fun k t hk2 hk ht h24 he hs=>by
  have s1:=R.sync1 F (by omega) ⟨ht,by omega⟩ hs;obtain⟨i,hi⟩:=R.someone;obtain⟨v,hv,a,b,c⟩:=s1.1 i hi;have e:t+1=2*(t/2+1)-1:=by omega
  have e':sg v=(t+1:Nat):=c;rw[e]at s1;refine(R.prevOut (k:=k+1) (r:=t/2+1) (by omega) (by omega) s1 (y:=Bh v) fun j hj u hu u1 u2 u3=>?_).mono (R.leO (by omega) (AB _));exact R.uni1 hk2 (by omega) ht hs hj hi hu hv u1 a u2 b (by rw[u3,<-e]) e'
 rcases(by omega:t%2=0∨t%2=1)with e|e
 ·exact go k t hk2 (by omega) ht.1 (by omega) e hs
 ·exact go (k+1) (t+1) (by omega) (by omega) (by omega) (by omega) (by omega) (R.sync1 F (by omega) ⟨ht.1,by omega⟩ hs)
theorem Run.lockOut(R:Run M q h K cv V O W OW){r:Nat}(hr:1<=r)(hm:B0 (pM 4 (r:Int)) (O K)<q)(ha:∀i,Hn h i->St (V K) i (2*r+2)):Gj q (O K):=by
 have hOK:=R.acc K (AB _);have yC:=R.val (AB K);have pre:∀u∈O K,u.kind=3->u.round=(r:Int)+1->∃w∈O K,w.kind=4/\w.round=(r:Int)/\w.choice≠2/\Bh w=Bh u:=fun u hu h3 h4=>by
  have hc:=((yC u hu).2.2.2.2.2.1 h3).2.2.1;rcases((hOK.fix u (hOK.sub u hu)).1 hu).2.prev h3 (by omega)with⟨_,w,hw,_,w1,w2,w3⟩|⟨hs,_⟩
  ·exact⟨w,hw,w1,by omega,by have:=w3.1;omega,(Cy.1 w3).symm⟩
  ·exfalso;have:q<=B0 (pM 4 (r:Int)) (O K):=by
    rw[<-hs.2.1];refine D5 fun i hi hb=>?_
    obtain⟨w,hw,w0,w1,w2,w3⟩:=hs.2.2 i hi hb;exact⟨w,hw,w0,En.2 ⟨w1,by omega,w3⟩⟩
   omega
 have one:∀u∈O K,∀u'∈O K,u.kind=3->u.round=(r:Int)+1->u'.kind=3->u'.round=(r:Int)+1->Bh u=Bh u':=fun u hu u' hu' a b a' b'=>by
  obtain⟨w,hw,w1,w2,w3,w4⟩:=pre u hu a b;obtain⟨z,hz,z1,z2,z3,z4⟩:=pre u' hu' a' b';rw[<-w4,<-z4];exact R.one4 (fun v hv=>hv) hOK hw hz w1 z1 (by omega) w3 z3
 have all:∀i,Hn h i->∃v∈O K,v.signer=(i:Int)/\v.kind=4/\v.round=(r:Int)+1/\v.choice≠2/\∃u∈O K,u.kind=3/\u.round=(r:Int)+1/\Bh u=Bh v:=fun i hi=>by
  obtain⟨v,hv,s,hp,g⟩:=ha i hi;have hvO:=(R.inv K (AB _) v hv i hi s hp).1;have e4:v.kind=4/\v.round=(r:Int)+1:=by unfold sg at g;unfold Pc at hp;omega
  have al:=((hOK.fix v hv).1 hvO).2;have hc:v.choice≠2:=fun hc=>by
   obtain⟨_,w,hw,u,hu,w1,u1,_,hne⟩:=al.mix e4.1 hc;exact hne (Cy.2 (one w hw u hu w1.1 (by omega) u1.1 (by omega)))
  have hs:=al.prec e4.1 hc;obtain⟨j,hj,hb⟩:=Bq 10 (by rw[hs.2.1];exact R.q0:0<Ae (xOf v.support) 10);obtain⟨u,hu,_,u1,u2,u3⟩:=hs.2.2 j hj hb;exact⟨v,hvO,s,e4.1,e4.2,hc,u,hu,u1,by omega,(Cy.1 u3).symm⟩
 obtain⟨i,hi⟩:=R.someone;obtain⟨v,hv,_,v1,v2,v3,u,hu,u1,u2,u3⟩:=all i hi;refine⟨(r:Int)+1,Bh v,v3,AG R.hq (D5 fun j hj hb=>?_)⟩;obtain⟨z,hz,z0,z1,z2,_,y,hy,y1,y2,y3⟩:=all j ⟨hj,hb⟩;exact⟨z,hz,z0,B3.2 ⟨z1,z2,by rw[<-y3,<-u3];exact one y hy u hu y1 y2 u1 u2⟩⟩
def Ti(h K:Nat)(V:Nat->List Vt)(r:Nat):Prop:=∃y,∀i,Hn h i->∀v∈V K,v.signer=(i:Int)->v.kind=3->v.round=(r:Int)->Bh v=y
theorem Run.round(R:Run M q h K cv V O W OW)(F:Ns M q h)(hno:¬Gj q (O K)){k r i1:Nat}(hk2:2<=k)(hk:k+5<=K)(hr:1<=r/\2*r+4<=24)(hn:∀i,Hn h i->¬St (V k) i (2*r))(hi1:Hn h i1)(h1:St (V (k+1)) i1 (2*r))(ha:∀i,Hn h i->St (V K) i (2*r+2)):Ti h K V (r+1)/\¬Ti h K V r:=by
 have hkK:k<K:=by omega
 --all are at 2 r-1 behind this round
 have yF:∀i,Hn h i->St (V (k+1)) i (2*r-1):=by
  obtain⟨v,hv,s,hp,g⟩:=h1;obtain⟨_,hw⟩:=R.fresh hkK hv (fun hc=>hn i1 hi1 ⟨v,hc,s,hp,g⟩) s;have e:2*r=2*r-1+1:=by omega
  obtain⟨j,hj,hjs⟩:=R.upper F hkK hi1 (t:=2*r-1) ⟨v,hw,s,hp,by omega⟩ (by rw[<-e];exact hn i1 hi1) (by omega);exact fun i hi=>R.inV hkK hi (R.catch hkK hk2 hj (2*r-1) (by omega) (by omega) hjs i hi)
 have hEt:∀i,Hn h i->¬St (V (k+1)) i (2*r+1):=R.upV F hkK (by omega) hn;have hk1K:k+1<K:=by omega
 --not all are at 2 r
 by_cases hA:∀i,Hn h i->St (V (k+1)) i (2*r)
 ·exact absurd (R.syncOut F (k:=k+1) (by omega) (by omega) ⟨by omega,by omega⟩ ⟨hA,hEt⟩) hno
 obtain⟨i0,hi0,hGo⟩:∃i0,Hn h i0/\¬St (V (k+1)) i0 (2*r):=Classical.byContradiction fun hc=>hA fun i hi=>Classical.byContradiction fun hs=>hc ⟨i,hi,hs⟩
 by_cases hN:q<=B0 (pSt (2*r)) (O (k+1))
 ·exfalso;have a1:∀i,Hn h i->St (V (k+2)) i (2*r+1):=fun i hi=>by
   have b1:=R.next hk1K (by omega) yF i hi;rw[show 2*r-1+1=2*r from by omega]at b1;exact R.inV hk1K hi (R.step hk1K hi (by omega) b1 (AG hN (GR fun v hv _=>R.leW hk1K hi v hv)))
  exact hno (R.syncOut F (k:=k+2) (by omega) (by omega) ⟨by omega,by omega⟩ ⟨a1,R.upV F hk1K (by omega) hEt⟩)
 --a late one's Precommit
 obtain⟨v0,hv0,s0,p0,g0⟩:=R.at_le (t:=2*r) (AB K) hi0 (by omega) (by omega) (ha i0 hi0);have e0:v0.kind=4/\v0.round=(r:Int):=by unfold sg at g0;unfold Pc at p0;omega
 obtain⟨D,OD,d1,d2,d3⟩:=R.signedK (m:=k+1) (by omega) hi0 hv0 (fun hc=>hGo ⟨v0,hc,s0,p0,g0⟩) s0 p0;have fin3:∀{D OD:List Vt},(∀w∈V (k+1),w∈D)->(∀w∈D,w∈V K)->B6 M q D OD->∀w,w.kind=3->w.round=(r:Int)->(w∈OD↔w∈O (k+1)):=fun a b c w w1 w2=>
  R.finD (by omega) (by omega) yF a b c (.inl w1) (by unfold sg;omega)
 have hOK:=R.acc K (AB _);have finK:=fin3 (R.le (by omega) (AB _)) (fun w hw=>hw) hOK;have pr0:=(d3.prec e0.1).2;rw[e0.2]at pr0;rcases pr0 with⟨c1,c2⟩|⟨c1,c2,_⟩
 ·--a value:Mixed has never a quorum
  exfalso;refine hno (R.lockOut hr.1 ?_ ha);refine Nat.lt_of_le_of_lt (Ju (pr':=pSt (2*r)) (O':=O (k+1)) fun w hw hp=>?_) (Nat.lt_of_not_le hN);obtain⟨w1,w2,w3⟩:=En.1 hp;have hst:pSt (2*r) w=true:=H6.2 ⟨.inr w1,by unfold sg;omega⟩;have hwV:=hOK.sub w hw;by_cases hin:w∈V (k+1)
  ·exact⟨w,R.fin (by omega) (by omega) (AB _) yF (fun v hv=>hv) hOK hw (.inr ⟨.inr w1,by unfold sg;omega,hin⟩),hst,rfl⟩
  ·exfalso;by_cases hh:∃i,Hn h i/\w.signer=(i:Int)
   ·obtain⟨i,hi,hs⟩:=hh;obtain⟨D',OD',b1,b2,b3⟩:=R.signedK (m:=k+1) (by omega) hi hwV hin hs (.inr w1);have pw:=(b3.prec w1).2;rw[w2]at pw;rcases pw with⟨x1,_⟩|⟨_,x2,_⟩
    ·exact x1 w3
    ·have y1:=x2 (Bh v0);have y2:B0 (pV 3 (r:Int) (Bh v0)) OD=B0 (pV 3 (r:Int) (Bh v0)) OD':=Fw fun u hu=>by
      obtain⟨u1,u2,_⟩:=B3.1 hu;exact(fin3 d1 d2 d3.acc u u1 u2).trans (fin3 b1 b2 b3.acc u u1 u2).symm
     omega
   ·exact hin (R.liar (k:=k+1) (K-(k+1)) (by omega) w (by rwa[show k+1+(K-(k+1))=K from by omega]) fun i hi e=>hh ⟨i,hi,e⟩)
 ·--Mixed:nothing was precommitted
  have none4:∀w∈O K,w.kind=4->w.round=(r:Int)->w.choice=2:=fun w hw w1 w2=>Classical.byContradiction fun w3=>by
   have a:=hOK.prevs hw w1 w3;rw[w2]at a;have b:=c2 (Bh w);have:B0 (pV 3 (r:Int) (Bh w)) (O K)=B0 (pV 3 (r:Int) (Bh w)) OD:=Fw fun u hu=>by
    obtain⟨u1,u2,_⟩:=B3.1 hu;exact(finK u u1 u2).trans (fin3 d1 d2 d3.acc u u1 u2).symm
   omega
  have car:∀i,Hn h i->∀v∈V K,v.signer=(i:Int)->v.kind=3->v.round=(r+1:Nat)->∃D OD,(∀w∈V (k+1),w∈D)/\(∀w∈D,w∈V K)/\B6 M q D OD/\cv (r:Int) OD (Bh v):=fun i hi v hv s v1 v2=>by
   obtain⟨D',OD',b1,b2,b3⟩:=R.signedK (m:=k+1) (by omega) hi hv (fun hc=>hEt i hi ⟨v,hc,s,.inl v1,by unfold sg;omega⟩) s (.inl v1);refine⟨D',OD',b1,b2,b3.acc,?_⟩;have e:v.round-1=(r:Int):=by omega
   have p:=(b3.prev v1 (by omega)).2;rw[e]at p;rcases p with⟨⟨w,hw,w1,w2,w3,_⟩,_⟩|⟨_,_,c⟩
   ·exact absurd (none4 w (b3.acc.mono (fun u hu=>R.ok K (AB _) u (b2 u hu)) hOK b2 w hw) w1 w2) w3
   ·exact c
  refine⟨?_,?_⟩
  ·obtain⟨v1,hv1,s1,q1,g1⟩:=R.at_le (t:=2*r+1) (AB K) hi0 (by omega) (by omega) (ha i0 hi0);have e1:v1.kind=3/\v1.round=(r+1:Nat):=by unfold sg at g1;unfold Pc at q1;omega
   obtain⟨D1,O1,a1,a2,a3,a4⟩:=car i0 hi0 v1 hv1 s1 e1.1 e1.2;refine⟨Bh v1,fun i hi v hv s u1 u2=>?_⟩;obtain⟨D2,O2,b1,b2,b3,b4⟩:=car i hi v hv s u1 u2;refine R.car _ _ _ _ _ _ _ b3 a3 b2 a2 b4 a4 fun z=>?_
   constructor
   ·rintro⟨w,hw,x1,x2,x3,x4⟩;exact⟨w,((fin3 b1 b2 b3 w x1 x2).trans (fin3 a1 a2 a3 w x1 x2).symm).1 hw,x1,x2,x3,x4⟩
   ·rintro⟨w,hw,x1,x2,x3,x4⟩;exact⟨w,((fin3 b1 b2 b3 w x1 x2).trans (fin3 a1 a2 a3 w x1 x2).symm).2 hw,x1,x2,x3,x4⟩
  ·rintro⟨y,hy⟩;have b:=c2 y;have:q<=B0 (pV 3 (r:Int) y) OD:=by
    refine AG R.hq (D5 fun j hj hb=>?_);obtain⟨u,hu,u1,u2,u3⟩:=yF j ⟨hj,hb⟩;have e:u.kind=3/\u.round=(r:Int):=by unfold sg at u3;unfold Pc at u2;omega
    refine⟨u,(fin3 d1 d2 d3.acc u e.1 e.2).2 (R.inv (k+1) (by omega) u hu j ⟨hj,hb⟩ u1 u2).1,u1,B3.2 ⟨e.1,e.2,hy j ⟨hj,hb⟩ u (R.le (by omega) (AB _) u hu) u1 e.1 e.2⟩⟩
   omega
theorem O0{P:Nat->Prop}:∀(d a:Nat),¬P a->P (a+d)->∃k,a<=k/\k<a+d/\¬P k/\P (k+1)
 |0,a,h,h'=>absurd h' h
 |d+1,a,h,h'=>by
  by_cases hc:P (a+d)
  ·obtain⟨k,h1,h2,h3,h4⟩:=O0 d a h hc;exact⟨k,h1,by omega,h3,h4⟩
  ·exact⟨a+d,by omega,by omega,hc,h'⟩
theorem Run.live(R:Run M q h K cv V O W OW)(F:Ns M q h)(hK:30<=K):Gj q (O K):=by
 refine Classical.byContradiction fun hno=>?_
 have h7:∀k,k<=4->∀i,Hn h i->¬St (V k) i (7+k):=by
  intro k
  induction k with
  |zero=>
   rintro _ i hi ⟨v,hv,s,hp,g⟩;have:=(R.start v hv i hi.1 hi.2 s hp).2;unfold sg at g;unfold Pc at hp;omega
  |succ k ih=>exact fun hk=>R.upV F (t:=7+k) (by omega) (by omega) (ih (by omega))
 have none:∀r,6<=r->∀i,Hn h i->¬St (V 4) i (2*r):=fun r hr i hi hs=>h7 4 (by omega) i hi (R.at_le (by omega) hi (by omega) (by omega) hs)
 have all:∀t,1<=t->t<=24->2+t<=K->∀i,Hn h i->St (V K) i t:=fun t h1 h2 h3 i hi=>(R.prog t h1 h2 h3 i hi).mono (R.le h3 (AB _))
 have go:∀r,6<=r->r<=7->Ti h K V (r+1)/\¬Ti h K V r:=fun r h6 h7=>by
  obtain⟨i,hi⟩:=R.someone;obtain⟨k,h1,h2,h3,h4⟩:=O0 (P:=fun k=>∃i,Hn h i/\St (V k) i (2*r)) (2*r-2) 4 (fun⟨i,hi,hs⟩=>none r h6 i hi hs) ⟨i,hi,by
   have:=R.prog (2*r) (by omega) (by omega) (by omega) i hi;rwa[show 2+2*r=4+(2*r-2)from by omega]at this⟩
  obtain⟨i1,hi1,hs1⟩:=h4;exact R.round F hno (by omega) (by omega) (by omega) (fun i hi hs=>h3 ⟨i,hi,hs⟩) hi1 hs1 (all _ (by omega) (by omega) (by omega))
 exact(go 7 (by omega) (by omega)).2 (go 6 (by omega) (by omega)).1
theorem Run.live1(R:Run M q h K cv V O W OW)(hK:30<=K){i0:Nat}(hi:Hn h i0)(alone:∀j,j<10->(xOf M).testBit j=true->j=i0):Gj q (O K):=by
 have hOK:=R.acc K (AB _);obtain⟨v,hv,s,hp,g⟩:=(R.prog 2 (by omega) (by omega) (by omega) i0 hi).mono (R.le (k:=2+2) (by omega) (AB K));have e:v.kind=4/\v.round=1:=by unfold sg at g;unfold Pc at hp;omega
 have hvO:=(R.inv K (AB _) v hv i0 hi s hp).1;have mine:∀w∈O K,w.signer=(i0:Int):=fun w hw=>by
  have a:=(R.val (AB K) w hw).2.1;have:=alone w.signer.toNat (by omega) ((hOK.fix w (hOK.sub w hw)).1 hw).1;omega
 have hc:v.choice≠2:=fun hc=>by
  obtain⟨_,w,hw,u,hu,w1,u1,_,hne⟩:=((hOK.fix v hv).1 hvO).2.mix e.1 hc;have:=R.uniq w (hOK.sub w hw) u (hOK.sub u hu) i0 hi.1 hi.2 (mine w hw) (mine u hu) (by omega) (by omega);exact hne (by rw[this];exact⟨rfl,rfl⟩)
 refine⟨1,Bh v,hc,AG R.hq (D5 fun j hj hb=>?_)⟩;have:=alone j hj (R.hM j hj hb);subst this;exact⟨v,hvO,s,B3.2 ⟨e.1,e.2,rfl⟩⟩
end
section
variable {M:Int}{p:Nm}{s i:Nat}{D:List Vt}
theorem Eo.asc(h:Eo D):Asc Bf D:=h.imp fun h=>F9 h
theorem Tj{X O:List Vt}(hS:Eo D)(hD:∀v∈D,AW v)(zK:List.Sublist X D)(hsl:∀v∈X,v.slot=(s:Int))(hX:∀v,v∈X/\v.parent=p/\v.kind<=4↔v∈vS s p D)(h:D0 M p (s:Int) X O):B6 M (Bd (Ae (xOf M) 10)) (vS s p D) O:=
 Nr hD hX (fun v hv=>⟨zK.subset hv,hsl v hv⟩) (h.2 (.inr (hS.asc.sublist (List.filter_sublist.trans zK))))
theorem H7{v:Vt}:v∈spF s p D↔v∈D/\v.slot=(s:Int)/\v.parent=p:=by
 unfold spF;rw[List.mem_filter,Bool.and_eq_true,decide_eq_true_eq,decide_eq_true_eq]
theorem Nu{O:List Vt}(hS:Eo D)(hD:∀v∈D,AW v)(h:D0 M p (s:Int) (spF s p D) O):B6 M (Bd (Ae (xOf M) 10)) (vS s p D) O:=
 Tj (X:=spF s p D) hS hD List.filter_sublist (fun v hv=>(H7.1 hv).2.1) (fun v=>by
  rw[H7,Bw];exact⟨fun h=>⟨h.1.1,h.1.2.1,h.2⟩,fun h=>⟨⟨h.1,h.2.1,h.2.2.1⟩,h.2.2⟩⟩) h
theorem R3{O:List Vt}(hS:Eo D)(hD:∀v∈D,AW v)(h:D0 M p (s:Int) (slB s (spF s p D)) O):B6 M (Bd (Ae (xOf M) 10)) (vS s p D) O:=by
 have e:slB s (spF s p D)=spF s p D:=List.filter_eq_self.2 fun v hv=>decide_eq_true (H7.1 hv).2.1
 rw[e]at h;exact Nu hS hD h
theorem Tk{O:List Vt}(hD:∀v∈D,AW v)(hO:O=CP M (EX p (slF s D))):B6 M (Bd (Ae (xOf M) 10)) (vS s p D) O:=
 Nr hD (X:=slF s D) (fun v=>by
  rw[Bw];unfold slF;rw[List.mem_filter,Bool.and_eq_true,decide_eq_true_eq,decide_eq_true_eq];exact⟨fun h=>⟨h.1.1,h.1.2.1,h.2.1,h.2.2⟩,fun h=>⟨⟨h.1,h.2.1,h.2.2.2⟩,h.2.2.1,h.2.2.2⟩⟩) (fun v hv=>⟨(LU hv).1,(LU hv).2.1⟩) hO
theorem Dv{k r:Int}(hk:k<=4)(h:owF s p (i:Int) D k r=true):Own (vS s p D) i k r:=by
 unfold owF at h;obtain⟨u,hu,h⟩:=List.any_eq_true.1 h;rw[Bool.and_eq_true,Bool.and_eq_true,decide_eq_true_eq,decide_eq_true_eq,decide_eq_true_eq]at h;have:=H7.1 hu;exact⟨u,Bw.2 ⟨this.1,this.2.1,this.2.2,by omega⟩,h⟩
theorem Cz{k r:Int}(h:owF s p (i:Int) D k r=false):¬Own (vS s p D) i k r:=fun⟨u,hu,h1,h2,h3⟩=>by
 unfold owF at h;rw[List.any_eq_false]at h;have:=Bw.1 hu;exact h u (H7.2 ⟨this.1,this.2.1,this.2.2.1⟩) (by rw[h1,h2,h3];simp)
theorem JI{q S:Nat}{O:List Vt}{v:Vt}{pr:Vt->Prop}(hv:v.support=((CR S q:Nat):Int))(hS:InN S (xOf M))(hq:q<=Ae S 10)(h:∀j,j<10->S.testBit j=true->∃w∈O,w.signer=(j:Int)/\pr w):Sup M q v O pr:=by
 have e:xOf v.support=CR S q:=by rw[hv];exact DU _ (Dr _ _)
 refine⟨?_,by rw[e];exact Jt hq,fun j hj hb=>?_⟩
 ·rw[hv];exact K2 (Dr _ _) fun j hj hb=>hS j hj (Ft hb).1
 ·rw[e]at hb;exact h j hj (Ft hb).1
theorem D6{q:Nat}{l O O':List Vt}(hl:Ok4 l)(h:B6 M q l O)(h':B6 M q l O')(pr:Vt->Bool):B0 pr O=B0 pr O':=Fw fun w _=>h.same hl h' w
theorem Id{q:Nat}{l O O':List Vt}(hl:Ok4 l)(h:B6 M q l O)(h':B6 M q l O')(k r:Int)(x:Vl):Bp k r O x↔Bp k r O' x:=by
 constructor
 ·rintro⟨w,hw,r⟩;exact⟨w,(h.same hl h' w).1 hw,r⟩
 ·rintro⟨w,hw,r⟩;exact⟨w,(h.same hl h' w).2 hw,r⟩
theorem Nv{O:List Vt}{r:Int}{x:Vl}:Ae (eiS O r x) 10=B0 (fun w=>pV 4 r x w||pM 4 r w) O:=by
 show Ae (BX (pV 4 r x) O|||BX (pM 4 r) O) 10=_;rw[U9]
theorem R4{O:List Vt}(hO:∀v∈O,AW v){r:Int}{x:Vl}{q:Nat}(hq:0<q)(h:∀x,Bp 3 r O x->Ae (BX (pV 3 r x) O) 10<q):B0 (pV 3 r x) O<q:=by
 rcases Nat.eq_zero_or_pos (B0 (pV 3 r x) O)with h0|h0
 ·omega
 ·obtain⟨j,hj,hb⟩:=Bq 10 h0;obtain⟨w,hw,_,h2⟩:=Dp hO hb;obtain⟨a,b,c⟩:=B3.1 h2;exact h x ⟨w,hw,a,b,by have:=((hO w hw).2.2.2.2.2.1 a).2.2.1;omega,c⟩
theorem O4{H:List Nm}{wt:Bool}{v:Vt}{q:Nat}(hqe:q=Bd (Ae (xOf M) 10))(hq:0<q)(hS:Eo D)(hD:∀v∈D,AW v)(hs:s<=9)(h:Ce M q p s (i:Int) D H wt (some v)):Ix M q (fun r O x=>Jj r O (some x)) i (vS s p D) (acS M s p D) v/\v.slot=(s:Int)/\v.signer=(i:Int)/\v.parent=p/\AW v:=by
 obtain⟨d1,d2,d3,d4,d5⟩:=h.due hD hs;have hl:=Gc (s:=s) (p:=p) hD;have hA:B6 M q (vS s p D) (acS M s p D):=by rw[hqe];exact Fv M s p hD
 have yC:∀w∈acS M s p D,AW w:=fun w hw=>(hl w (hA.sub w hw)).1
 have conv:∀{O:List Vt},D0 M p (s:Int) (spF s p D) O->B6 M q (vS s p D) O:=fun hO=>by rw[hqe];exact Nu hS hD hO
 have conv':∀{O:List Vt},D0 M p (s:Int) (slB s (spF s p D)) O->B6 M q (vS s p D) O:=fun hO=>by rw[hqe];exact R3 hS hD hO
 refine⟨?_,d2,d3,d4,d1⟩;obtain⟨⟨hf,hfm⟩,_,_,h⟩:=h;have bits:∀{pr:Vt->Bool} {O:List Vt} (_:B6 M q (vS s p D) O) {j:Nat},(BX pr O).testBit j=true->∃w∈acS M s p D,w.signer=(j:Int)/\pr w=true:=fun{_ _} hO {j} hb=>by
  obtain⟨w,hw,h1,h2⟩:=Dp (fun w hw=>(hl w (hO.sub w hw)).1) hb;exact⟨w,(hO.same hl hA w).1 hw,h1,h2⟩
 rcases h with h|⟨_,h|⟨_,O,r,hO,hr1,hr2,_,h⟩⟩
 ·--Echo
  obtain⟨h0,O,k,hO,hk,h1,_,rfl⟩:=h;have hO:=conv' hO
  obtain⟨j,_,hb⟩:=Bq 10 h1;obtain⟨w,hw,_,hw2⟩:=bits hO hb;unfold pK at hw2;rw[Bool.and_eq_true,decide_eq_true_eq,decide_eq_true_eq]at hw2;have hwc:=((yC w hw).2.2.2.2.1 (.inl hw2.1)).2.2.2;exact⟨hA,⟨fun e=>(by cases e),fun _=>⟨w,hw,hw2.1,hwc.symm,hw2.2.symm⟩,fun e=>(by cases e),fun e=>(by cases e),fun e=>(by cases e),fun e=>(by cases e)⟩,Cz d5,fun e=>(by cases e),fun e=>(by cases e)⟩
 ·--the first Prevote
  obtain⟨h0,⟨O,O',k,hO,hO',hk,h1,rfl⟩|⟨_,_,rfl⟩⟩:=h
  ·have hO:=conv' hO
   have hO':=conv' hO'
   have hc:q<=Ae (BX (pK 2 k) O') 10:=by have:=D6 hl hO hO' (pK 2 k);unfold B0 at this;omega
   refine⟨hA,⟨fun e=>(by cases e),fun e=>(by cases e),fun _ _=>.inr (JI rfl (FT hO') hc fun j hj hb=>?_),fun _ e=>absurd rfl e,fun e=>(by cases e),fun e=>(by cases e)⟩,Cz d5,fun e=>(by cases e),fun _ e=>absurd rfl e⟩;obtain⟨w,hw,w1,w2⟩:=bits hO' hb;unfold pK at w2;rw[Bool.and_eq_true,decide_eq_true_eq,decide_eq_true_eq]at w2;have hwc:=((yC w hw).2.2.2.2.1 (.inr w2.1)).2.2.2;exact⟨w,hw,w1,w2.1,hwc.symm,w2.2.symm⟩
  ·exact⟨hA,⟨fun e=>(by cases e),fun e=>(by cases e),fun _ _=>.inl rfl,fun _ e=>absurd rfl e,fun e=>(by cases e),fun e=>(by cases e)⟩,Cz d5,fun e=>(by cases e),fun _ e=>absurd rfl e⟩
 ·have hO:=conv hO
  rcases h with h|⟨hr12,_,h⟩
  ·--a Precommit
   obtain⟨h0,_,⟨x,hx,h1,rfl⟩|⟨h1,h2,rfl⟩⟩:=h
   ·obtain⟨z,hz,z1,z2,z3,z4⟩:=hx;have zc:x.choice≠2:=by rw[<-z4];exact z3
    have hc:q<=B0 (pV 3 r x) (acS M s p D):=by rw[<-D6 hl hO hA];exact h1
    refine⟨hA,⟨fun e=>(by cases e),fun e=>(by cases e),fun e=>(by cases e),fun e=>(by cases e),fun _ _=>JI rfl (FT hO) h1 fun j hj hb=>?_,fun _ e=>absurd e zc⟩,Cz d5,fun _=>⟨Dv (by omega) h0,.inl ⟨zc,hc⟩⟩,fun e=>(by cases e)⟩;obtain⟨w,hw,w1,w2⟩:=bits hO hb;obtain⟨a,b,c⟩:=B3.1 w2;exact⟨w,hw,w1,a,b,Cy.2 c.symm⟩
   ·have hc:q<=B0 (pA 3 r) (acS M s p D):=by rw[<-D6 hl hO hA];exact h2
    have hno:∀x,B0 (pV 3 r x) (acS M s p D)<q:=fun x=>R4 yC hq fun x hx=>by
     have:=h1 x ((Id hl hO hA 3 r x).2 hx);have e:=D6 hl hO hA (pV 3 r x);unfold B0 at e;omega
    have sup:Sup M q ⟨4,(s:Int),r,2,(i:Int),((CR (BX (pA 3 r) O) q:Nat):Int),p,Nm.zero⟩ (acS M s p D) (fun w=>w.kind=3/\w.round=r):=JI rfl (FT hO) h2 fun j hj hb=>by
     obtain⟨w,hw,w1,w2⟩:=bits hO hb;exact⟨w,hw,w1,Nq.1 w2⟩
    refine⟨hA,⟨fun e=>(by cases e),fun e=>(by cases e),fun e=>(by cases e),fun e=>(by cases e),fun _ e=>absurd rfl e,fun _ _=>⟨sup,?_⟩⟩,Cz d5,fun _=>⟨Dv (by omega) h0,.inr ⟨rfl,hno,hc⟩⟩,fun e=>(by cases e)⟩
    --two unlike votes in the support
    refine Classical.byContradiction fun hc2=>?_
    obtain⟨j0,hj0,hb0⟩:=Bq 10 (show 0<Ae _ 10 by rw[sup.2.1];exact hq);obtain⟨w0,hw0,x0,y0⟩:=sup.2.2 j0 hj0 hb0;have all:q<=B0 (pV 3 r (Bh w0)) (acS M s p D):=by
     rw[<-sup.2.1];refine D5 fun j hj hb=>?_
     obtain⟨w,hw,x1,y1⟩:=sup.2.2 j hj hb;refine⟨w,hw,x1,B3.2 ⟨y1.1,y1.2,(Cy.1 ?_).symm⟩⟩;refine Classical.byContradiction fun hne=>hc2 ⟨w0,hw0,w,hw,y0,y1,⟨by rw[x0];exact hb0,by rw[x1];exact hb⟩,hne⟩
    have:=hno (Bh w0);omega
  ·--a later Prevote
   obtain⟨h0,_,⟨x,hx,h1,rfl⟩|⟨h1,h2,x,hx,rfl⟩⟩:=h
   ·have e1:(r+1:Int)-1=r:=by omega
    obtain⟨z,hz,z1,z2,z3,z4⟩:=hx;have zc:x.choice≠2:=by rw[<-z4];exact z3
    have hSx:0<Ae (BX (pV 4 r x) O) 10:=by
     have hz9:=(hl z (hO.sub z hz)).1.2.1;have hb:(BX (pV 4 r x) O).testBit z.signer.toNat=true:=Cg.2 ⟨z,hz,B3.2 ⟨z1,z2,z4⟩,rfl⟩;exact Hh 10 (by omega) hb
    have s10:∀pr,BX pr O<1024:=fun pr=>Fa fun v hv=>(hl v (hO.sub v hv)).1.2.1
    obtain⟨p1,p2,j,hj,p3,p4⟩:=Ry hSx (s10 _) (s10 _) hq h1;have sup10:Kb q O r x<1024:=Nat.or_lt_two_pow (n:=10) (Dr _ _) (Dr _ _);have ex:xOf (((Kb q O r x:Nat):Int))=Kb q O r x:=DU _ sup10;have each:∀j,j<10->(Kb q O r x).testBit j=true->∃w∈acS M s p D,w.signer=(j:Int)/\w.kind=4/\w.round=r/\(Bh w=x∨w.choice=2):=fun j hj hb=>by
     have h3:=p2 j hj hb;rw[Nat.testBit_or,Bool.or_eq_true]at h3;rcases h3 with h3|h3
     ·obtain⟨w,hw,w1,w2⟩:=bits hO h3;obtain⟨a,b,c⟩:=B3.1 w2;exact⟨w,hw,w1,a,b,.inl c⟩
     ·obtain⟨w,hw,w1,w2⟩:=bits hO h3;obtain⟨a,b,c⟩:=En.1 w2;exact⟨w,hw,w1,a,b,.inr c⟩
    refine⟨hA,⟨fun e=>(by cases e),fun e=>(by cases e),fun _ e=>(by exfalso;have:r+1=1:=e;omega),fun _ _=>.inl ⟨⟨K2 sup10 fun j hj hb=>?_,?_,fun j hj hb=>?_⟩,?_⟩,fun e=>(by cases e),fun e=>(by cases e)⟩,Cz d5,fun e=>(by cases e),fun _ _=>?_⟩
    ·obtain⟨w,hw,w1,_⟩:=each j hj hb;have:=((hA.fix w (hA.sub w hw)).1 hw).1;rw[w1]at this;exact this
    ·show Ae (xOf (((Kb q O r x:Nat):Int))) 10=q;rw[ex];exact p1
    ·have hb:(xOf (((Kb q O r x:Nat):Int))).testBit j=true:=hb;rw[ex]at hb;obtain⟨w,hw,w1,w2,w3,w4⟩:=each j hj hb;refine⟨w,hw,w1,w2,by show w.round=r+1-1;omega,w4.elim (fun e=>.inl (Cy.2 e.symm)) .inr⟩
    ·obtain⟨w,hw,w1,w2⟩:=bits hO p3;obtain⟨a,b,c⟩:=B3.1 w2;refine⟨w,hw,?_,a,by show w.round=r+1-1;omega,Cy.2 c.symm⟩;show(xOf (((Kb q O r x:Nat):Int))).testBit _=true;rw[ex,w1];exact p4
    ·show Own _ _ 4 (r+1-1)/\_;rw[show((r+1:Int)-1)=r from e1];refine⟨Dv (by omega) h0,.inl ⟨?_,?_⟩⟩
     ·exact(Id hl hO hA 4 r x).1 ⟨z,hz,z1,z2,z3,z4⟩
     ·rw[<-D6 hl hO hA,<-Nv];exact h1
   ·have e1:(r+1:Int)-1=r:=by omega
    have sup:Sup M q ⟨3,(s:Int),r+1,x.choice,(i:Int),((CR (BX (pM 4 r) O) q:Nat):Int),p,x.name⟩ (acS M s p D) (fun w=>w.kind=4/\w.round=r+1-1/\w.choice=2):=JI rfl (FT hO) h2 fun j hj hb=>by
     obtain⟨w,hw,w1,w2⟩:=bits hO hb;obtain⟨a,b,c⟩:=En.1 w2;exact⟨w,hw,w1,a,by omega,c⟩
    obtain⟨z,hz,z1,z2,z3,z4⟩:=hx.is;refine⟨hA,⟨fun e=>(by cases e),fun e=>(by cases e),fun _ e=>(by exfalso;have:r+1=1:=e;omega),fun _ _=>.inr ⟨sup,z,(hO.same hl hA z).1 hz,z1,by show z.round=r+1-1;omega,Cy.2 z4.symm⟩,fun e=>(by cases e),fun e=>(by cases e)⟩,Cz d5,fun e=>(by cases e),fun _ _=>?_⟩;show Own _ _ 4 (r+1-1)/\_;rw[show((r+1:Int)-1)=r from e1];refine⟨Dv (by omega) h0,.inr ⟨fun y hy=>?_,?_,?_⟩⟩
    ·rw[<-D6 hl hO hA,<-Nv];exact h1 y ((Id hl hO hA 4 r y).2 hy)
    ·rw[<-D6 hl hO hA];exact h2
    ·obtain⟨L,l1,l2,l3⟩:=hx;exact⟨L,fun y=>(l1 y).trans (Id hl hO hA 3 r y),l2,l3⟩
theorem Tl(S i:Nat)(hi:i<10):(xOf (S:Int)).testBit i=S.testBit i:=by
 have e:xOf (S:Int)=S%2^10:=by unfold xOf;omega
 rw[e,Nat.testBit_mod_two_pow,decide_eq_true hi,Bool.true_and]
theorem O6{q:Nat}{L:List Oc}(hqe:q=Bd (Ae (xOf M) 10))(hS:Eo D)(hD:∀v∈D,AW v)(h:He M p s D L):∃O,B6 M q (vS s p D) O/\(∀o∈L,o.slot=(s:Int)/\Kk (xOf M) O o.round o.choice o.value)/\∀x∈O,x.kind=4->x.choice≠2->kyO s x∈L∨RQ M s O x:=by
 obtain⟨O,_,h2,h3⟩:=h;obtain⟨h4,h5⟩:=h3 (.inr (hS.asc.sublist List.filter_sublist));exact⟨O,by rw[hqe];exact Tk hD h4,h2,h5⟩
theorem Tm{q:Nat}{L:List Oc}(hqe:q=Bd (Ae (xOf M) 10))(hS:Eo D)(hD:∀v∈D,AW v)(h:He M p s D L)(hL:¬L=[]):Gj q (acS M s p D):=by
 obtain⟨O,h1,h2,_⟩:=O6 hqe hS hD h;have hA:B6 M q (vS s p D) (acS M s p D):=by rw[hqe];exact Fv M s p hD
 obtain⟨o,ho⟩:∃o,o∈L:=List.exists_mem_of_ne_nil L hL;obtain⟨_,h3,S,hS1,hS2,hS3⟩:=h2 o ho;refine⟨o.round,⟨o.choice,o.value⟩,h3,?_⟩;rw[<-D6 (Gc hD) h1 hA];refine AG (by rw[hqe];exact hS2) (D5 fun j hj hb=>?_);obtain⟨w,hw,w1,w2,w3,w4,w5⟩:=hS3 j hj hb;exact⟨w,hw,w1,B3.2 ⟨w2,w3,by unfold Bh;rw[w4,w5]⟩⟩
theorem R5{q:Nat}(hqe:q=Bd (Ae (xOf M) 10))(hq:0<q)(hS:Eo D)(hD:∀v∈D,AW v)(h:He M p s D []):¬Gj q (acS M s p D):=by
 rintro⟨r,x,hx,hc⟩;obtain⟨O,h1,_,h3⟩:=O6 hqe hS hD h;have hA:B6 M q (vS s p D) (acS M s p D):=by rw[hqe];exact Fv M s p hD
 rw[<-D6 (Gc hD) h1 hA]at hc;have hv:∀w∈O,AW w:=fun w hw=>(Gc hD w (h1.sub w hw)).1
 obtain⟨j,hj,hb⟩:=Bq 10 (Nat.lt_of_lt_of_le hq hc);obtain⟨w,hw,_,w2⟩:=Dp hv hb;obtain⟨a,b,c⟩:=B3.1 w2;rcases h3 w hw a (by have:w.choice=x.choice:=(by rw[<-c];rfl);rw[this];exact hx)with h4|⟨S,h4,h5⟩
 ·cases h4
 ·have:B0 (pV 4 r x) O<=Ae (xOf (S:Int)) 10:=CM (fun k hk hb=>by
   obtain⟨y,hy,y1,y2⟩:=Dp hv hb;obtain⟨d,e,g⟩:=B3.1 y2;have hyc:Bh y=Bh w:=by rw[g,c]
   have e1:y.choice=w.choice:=congrArg Vl.choice hyc;have e2:y.value=w.value:=congrArg Vl.name hyc;have:=h4 y hy d (by rw[e1];intro h2;apply hx;rw[<-c];exact h2) (by unfold kyO;rw[e,b,e1,e2]);rw[y1,Int.toNat_natCast]at this;rw[Tl S k hk];exact this) 10 (AB _)
  omega
theorem Tn{H:List Nm}{wt:Bool}{q:Nat}(hqe:q=Bd (Ae (xOf M) 10))(hS:Eo D)(hD:∀v∈D,AW v)(hi:i<10)(hmi:(xOf M).testBit i=true)(hms:(xOf M).testBit s=true)(hH:∀w∈D,w.kind=1->w.value∈H)(h:Ce M q p s (i:Int) D H wt none):Gj q (acS M s p D)∨WK q i (vS s p D) (acS M s p D) (wt=true):=by
 have hl:=Gc (s:=s) (p:=p) hD;have hA:B6 M q (vS s p D) (acS M s p D):=by rw[hqe];exact Fv M s p hD
 rcases h with h|h|⟨L,h,hL⟩|⟨_,he,hf,O,hO,hr⟩
 ·exact absurd ⟨by omega,by rw[Int.toNat_natCast];exact hmi⟩ h
 ·rw[hms]at h;cases h
 ·exact .inl (Tm hqe hS hD h hL)
 ·have hO:B6 M q (vS s p D) O:=by rw[hqe];exact Nu hS hD hO
  refine .inr ⟨?_,fun hw=>?_,fun r h1 h2 ho=>?_,fun r h1 h2 ho=>?_⟩
  ·rcases he with he|⟨O',L,hO',hL,hno⟩
   ·exact .inl (Dv (by omega) he)
   ·refine .inr fun w hw hk=>?_
    have hO':B6 M q (vS s p D) O':=by rw[hqe];exact R3 hS hD hO'
    have hv:=hl w (hA.sub w hw);have hz:¬w.value=Nm.zero:=hv.1.2.2.1.1 (hv.1.2.2.2.2.1 (.inl hk)).2.2.2;have hw':=(hO'.same hl hA w).2 hw;have hb:(BX (pK 1 w.value) O').testBit w.signer.toNat=true:=Cg.2 ⟨w,hw',by unfold pK;rw[hk];simp,rfl⟩;have hp:=Hh 10 (by have:=hv.1.2.1;omega) hb;exact hno _ ((hL w.value).2 ⟨hz,hp⟩) (hH w (Bw.1 (hA.sub w hw)).1 hk)
  ·rcases hf with hf|⟨hf,_⟩
   ·exact Dv (by omega) hf
   ·rw[hw]at hf;cases hf
  ·rcases(hr r h1 h2).1 with h3|h3|⟨_,h3⟩
   ·exact absurd ho (Cz h3)
   ·exact .inl (Dv (by omega) h3)
   ·right;rw[<-D6 hl hO hA];exact h3
  ·rcases(hr r h1 (by omega)).2 h2 with h3|h3|⟨h3,h4⟩
   ·exact absurd ho (Cz h3)
   ·exact .inl (Dv (by omega) h3)
   ·refine .inr ⟨fun x hx=>?_,?_⟩
    ·rw[<-D6 hl hO hA,<-Nv];exact h3 x ((Id hl hO hA 4 r x).2 hx)
    ·rcases h4 with h4|h4
     ·left;rw[<-D6 hl hO hA];exact h4
     ·exact .inr fun x hx=>h4 x ((Id hl hO hA 3 r x).2 hx)
end
end
end Go.Proofs.YtadllffeoibelaaGreat
