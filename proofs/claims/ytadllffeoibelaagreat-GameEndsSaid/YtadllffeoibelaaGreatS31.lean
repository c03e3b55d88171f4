/-
  Parts of the proof. No condition.
-/
import Derived.Test.YtadllffeoibelaaGreatS30
open Go.Proofs.Tryz
namespace Go.Proofs.YtadllffeoibelaaGreat
set_option maxRecDepth 100000
set_option maxHeartbeats 32000000
set_option linter.all false
section
open Go.RowKit
theorem T8{a b:Vl}(h:DG a b=false)(h':DG b a=false):a=b:=by
 rw[Nb]at h h';have h1:=of_decide_eq_false h;have h2:=of_decide_eq_false h';have e1:a.choice=b.choice:=by omega
 have e2:a.name=b.name:=(Sf _ _).1 (by omega);cases a
 cases b
 exact Vl.mk.injEq ..▸⟨e1,e2⟩
theorem PO{α:Type}{lt:α->α->Bool}(anti:∀a b,lt a b=false->lt b a=false->a=b):∀L L':List α,Asc lt L->Asc lt L'->L.Perm L'->L=L'
 |[],L',_,_,hp=>(List.Perm.nil_eq hp)
 |a::t,[],_,_,hp=>absurd hp.length_eq (by simp)
 |a::t,b::t',h,h',hp=>by
  have ha:=List.pairwise_cons.1 h;have hb:=List.pairwise_cons.1 h';have e:a=b:=by
   rcases List.mem_cons.1 (hp.subset (Am (a:=a)))with e|hm
   ·exact e
   ·rcases List.mem_cons.1 (hp.symm.subset (Am (a:=b)))with e|hm'
    ·exact e.symm
    ·exact anti a b (hb.1 a hm) (ha.1 b hm')
  subst e;rw[PO anti t t' ha.2 hb.2 (List.Perm.cons_inv hp)]
section
variable {M:Int}{q h:Nat}{U:List Vt}
theorem B6.echoed{l D:List Vt}(hl:Ok4 l)(hA:B6 M q l D)(hq:0<q):∀(n:Nat) (v:Vt),v∈D->v.kind=3->v.round=(n:Int)->Bh v=⟨0,Nm.zero⟩∨q<=B0 (pV 2 0 (Bh v)) D:=by
 intro n
 induction n with
 |zero=>
  intro v hv hk hr;have:=((hl v (hA.sub v hv)).1.2.2.2.2.2.1 hk).2.1;omega
 |succ n ih=>
  intro v hv hk hr;have yC:=(hl v (hA.sub v hv)).1;have al:=((hA.fix v (hA.sub v hv)).1 hv).2;by_cases h1:v.round=1
  ·rcases al.first hk h1 with h2|h2
   ·left;have hz:v.value=Nm.zero:=Classical.byContradiction fun hn=>by have:=yC.2.2.1.2 hn;omega
    unfold Bh;rw[h2,hz]
   ·right;rw[<-h2.2.1];refine D5 fun i hi hb=>?_
    obtain⟨w,hw,w1,w2,w3⟩:=h2.2.2 i hi hb;exact⟨w,hw,w1,B3.2 ⟨w2,((hl w (hA.sub w hw)).1.2.2.2.2.1 (.inr w2)).2.1,(Cy.1 w3).symm⟩⟩
  ·rcases al.prev hk h1 with⟨_,w,hw,_,w1,w2,w3⟩|⟨_,w,hw,w1,w2,w3⟩
   ·have hc:=(yC.2.2.2.2.2.1 hk).2.2.1;have wc:w.choice≠2:=by have:=w3.1;omega
    have sp:=((hA.fix w (hA.sub w hw)).1 hw).2.prec w1 wc;obtain⟨i,hi,hb⟩:=Bq 10 (by rw[sp.2.1];exact hq:0<Ae (xOf w.support) 10);obtain⟨u,hu,_,u1,u2,u3⟩:=sp.2.2 i hi hb;have:=ih u hu u1 (by omega);rwa[<-Cy.1 u3,<-Cy.1 w3]at this
   ·have:=ih w hw w1 (by omega);rwa[<-Cy.1 w3]at this
theorem VG(hq:0<q)(hU:Ok4 U)(meet:∀S S',InN S (xOf M)->InN S' (xOf M)->q<=Ae S 10->q<=Ae S' 10->∃j,j<10/\S.testBit j=true/\S'.testBit j=true/\h.testBit j=true)(uniq:∀u∈U,∀v∈U,∀i,i<10->h.testBit i=true->u.signer=(i:Int)->v.signer=(i:Int)->u.kind=v.kind->u.round=v.round->u=v){r:Int}{D D' l:List Vt}{x y:Vl}(a:B6 M q l D)(hs:∀v∈l,v∈U)(c:Jj r D (some x))(c':Jj r D' (some y))(he:∀z,Bp 3 r D z↔Bp 3 r D' z):x=y:=by
 have hl:Ok4 l:=fun v hv=>hU v (hs v hv)
 have hv:∀v∈D,AW v:=fun v hv=>(hl v (a.sub v hv)).1
 have two:∀z z',Bp 3 r D z->Bp 3 r D z'->z≠⟨0,Nm.zero⟩->z'≠⟨0,Nm.zero⟩->z=z':=by
  rintro z z' ⟨v,hv1,k1,k2,_,e⟩ ⟨v',hv1',k1',k2',_,e'⟩ hz hz';have hr:=((hv v hv1).2.2.2.2.2.1 k1).2.1;have e1:=a.echoed hl hq v.round.toNat v hv1 k1 (by omega);have e2:=a.echoed hl hq v'.round.toNat v' hv1' k1' (by omega);rw[e]at e1;rw[e']at e2;have e1:=e1.resolve_left hz;have e2:=e2.resolve_left hz';obtain⟨j,hj,b1,b2,b3⟩:=meet _ _ (FT a) (FT a) e1 e2;obtain⟨w,hw,w1,w2⟩:=Dp hv b1;obtain⟨u,hu,u1,u2⟩:=Dp hv b2;obtain⟨p1,p2,p3⟩:=B3.1 w2;obtain⟨q1,q2,q3⟩:=B3.1 u2;have:=uniq w (hs w (a.sub w hw)) u (hs u (a.sub u hu)) j hj b3 w1 u1 (by omega) (by omega);rw[<-p3,<-q3,this]
 obtain⟨L,l1,⟨l2,l3⟩,l4⟩:=c;obtain⟨L',m1,⟨m2,m3⟩,m4⟩:=c';have hp:L.Perm L':=(List.perm_ext_iff_of_nodup l2 m2).2 fun z=>(l1 z).trans ((he z).trans (m1 z).symm)
 have short:L.length<=12:=by
  refine Classical.byContradiction fun hc=>?_
  match L,l1,l2,hc with
  |a1::a2::a3::t,l1,l2,_=>
   have i1:=(l1 a1).1 (by simp);have i2:=(l1 a2).1 (by simp);have i3:=(l1 a3).1 (by simp);simp only[List.nodup_cons,List.mem_cons,not_or]at l2;by_cases z1:a1=⟨0,Nm.zero⟩
   ·exact l2.2.1.1 (two a2 a3 i2 i3 (fun e=>l2.1.1 (by rw[z1,e])) (fun e=>l2.1.2.1 (by rw[z1,e])))
   ·by_cases z2:a2=⟨0,Nm.zero⟩
    ·exact l2.1.2.1 (two a1 a3 i1 i3 z1 (fun e=>l2.2.1.1 (by rw[z2,e])))
    ·exact l2.1.1 (two a1 a2 i1 i2 z1 z2)
  |[],_,_,hc=>simp at hc
  |[_],_,_,hc=>simp at hc
  |[_,_],_,_,hc=>simp at hc
 have e:=PO (fun a b=>T8) L L' (l3 short) (m3 (by rw[<-hp.length_eq];exact short)) hp;rw[e,<-m4]at l4;injection l4
end
def Wf(M:Int)(par:Nm)(P P1:PrS)(v:Vt):Prop:=v.signer=(P.mem:Int)/\((v=Fh par P.mem P.pay/\Du par P.mem P.D=false)∨
 ∃D:List Vt,Eo D/\(∀w∈D,AW w)/\(∀w∈P.D,w∈D)/\(∀w∈D,w∈P1.D)/\Cj M par (P.mem:Int) D (DL D) (decide (2<P.acts+1)) (some v))
structure WO (M:Int)(par:Nm)(P P1:PrS):Prop where
 mem:P1.mem=P.mem
 acts:P1.acts=P.acts+1
 pay:P1.pay=P.pay
 dd:P1.dd=P.dd
 dec:P1.dec=P.dec
 sub:∀v∈P.D,v∈P1.D
 new:∀v∈P1.D,¬v∈P.D->Wf M par P P1 v
 prop:Du par P.mem P1.D=true∨¬(AW (Fh par P.mem P.pay)/\P.leaf<1024)
structure Ee (p:Nat)(G G1:GmS):Prop where
 M:G1.M=G.M
 par:G1.par=G.par
 hon:G1.hon=G.hon
 len:G1.ps.length=G.ps.length
 oth:∀j,j≠p->G1.ps[j]? =G.ps[j]?
 me:∃(b:Nat) (P P1:PrS),G.ps[p]? =some (b,P)/\G1.ps[p]? =some (b,P1)/\WO G.M G.par P P1
theorem LB{par:Nm}{m:Nat}{D D':List Vt}(h:Du par m D=true)(hs:∀v∈D,v∈D'):Du par m D'=true:=by
 unfold Du at h ⊢;obtain⟨v,hv,h⟩:=List.any_eq_true.1 h;exact List.any_eq_true.2 ⟨v,hs v hv,h⟩
section
variable {Bs g n T:Nat}{T0 L0:Int}{sd:Nm}{w:World}{G G1 G2:GmS}
theorem PP{P:PrS}{va:Value}{L:List Sg}{x:VS}(h:L.map Sg.vs=Cc (P.L.map Sg.vs++[x]))(u:Vt):u∈(P.signd va L).D↔u∈P.D∨u=x.1:=by
 show u∈EY (L.map Sg.vs)↔u∈EY (P.L.map Sg.vs)∨_;rw[Cf,Cf,h,Gp,Ad,AP];simp
theorem Ee.begin{p b:Nat}{P:PrS}(hi:G.ps[p]? =some (b,P))(hp:Du G.par P.mem P.D=true∨¬(AW (Fh G.par P.mem P.pay)/\P.leaf<1024)):Ee p G (G.actd p b P):=by
 have hl:=(AF.1 hi).1;exact⟨rfl,rfl,rfl,by show(G.ps.set _ _).length=_;rw[List.length_set],fun j hj=>List.getElem?_set_ne (fun e=>hj e.symm),b,P,_,hi,List.getElem?_set_self hl,⟨rfl,rfl,rfl,rfl,rfl,fun v hv=>hv,fun v hv hn=>absurd hv hn,hp⟩⟩
theorem Ee.propose{p b:Nat}{P:PrS}(hi:G.ps[p]? =some (b,P))(hp:Du G.par P.mem P.D=false)(hs:Ke p (Fh G.par P.mem P.pay) (G.actd p b P) G1):Ee p G G1:=by
 have hl:=(AF.1 hi).1;obtain⟨b',P',k,sv0,sl,va,vs,L,h1,h2,h3,h4,h5,rfl⟩:=hs;rw[show(G.actd p b P).ps=G.ps.set p (b,{P with acts:=P.acts+1})from rfl,List.getElem?_set_self hl]at h1;injection h1 with h1
 injection h1 with e1 e2
 subst e1;subst e2;have hD:=PP (va:=va) h5;refine⟨rfl,rfl,rfl,by show((G.ps.set _ _).set _ _).length=_;rw[List.length_set,List.length_set],fun j hj=>?_,b,P,_,hi,List.getElem?_set_self (by rw[show(G.actd p b P).ps=G.ps.set p (b,{P with acts:=P.acts+1})from rfl,List.length_set];exact hl),⟨rfl,rfl,rfl,rfl,rfl,fun v hv=>(hD v).2 (.inl hv),fun v hv hn=>?_,.inl ?_⟩⟩
 ·show((G.ps.set p _).set p _)[j]? =_;rw[List.getElem?_set_ne (fun e=>hj e.symm),List.getElem?_set_ne (fun e=>hj e.symm)]
 ·rcases(hD v).1 hv with h|h
  ·exact absurd h hn
  ·exact⟨by rw[h],.inl ⟨h,hp⟩⟩
 ·unfold Du;exact List.any_eq_true.2 ⟨_,(hD _).2 (.inr rfl),by simp⟩
theorem Ee.due{p:Nat}{v:Vt}(h:Ee p G G1)(hI:PlI n T0 L0 sd T G1)(hd:Hv p G1 (some v))(hs:Ke p v G1 G2):Ee p G G2:=by
 obtain⟨b,P,P1,hi,hi1,a⟩:=h.me;obtain⟨b',P',d1,d2⟩:=hd;rw[hi1]at d1;injection d1 with d1
 injection d1 with e1 e2
 subst e1;subst e2;obtain⟨b',P',k,sv0,sl,va,vs,L,h1,h2,h3,h4,h5,rfl⟩:=hs;rw[hi1]at h1;injection h1 with h1
 injection h1 with e1 e2
 subst e1;subst e2;have hl:=(AF.1 hi1).1;have hD:=PP (va:=va) h5;have vP:∀u∈P1.D,AW u:=PrS.D_valid fun x hx=>(hI.inv.held p b P1 hi1 x hx).1
 obtain⟨_,_,_,_,d3,_⟩:=d2.due vP;refine⟨h.M,h.par,h.hon,by show(G1.ps.set _ _).length=_;rw[List.length_set];exact h.len,fun j hj=>?_,b,P,_,hi,List.getElem?_set_self hl,⟨a.mem,a.acts,a.pay,a.dd,a.dec,fun u hu=>(hD u).2 (.inl (a.sub u hu)),fun u hu hn=>?_,a.prop.imp (fun hp=>LB hp fun u hu=>(hD u).2 (.inl hu)) id⟩⟩
 ·show(G1.ps.set p _)[j]? =_;rw[List.getElem?_set_ne (fun e=>hj e.symm)];exact h.oth j hj
 ·rcases(hD u).1 hu with hu|hu
  ·obtain⟨n1,n2⟩:=a.new u hu hn;refine⟨n1,n2.imp id fun⟨D,x1,x2,x3,x4,x5⟩=>⟨D,x1,x2,x3,fun z hz=>(hD z).2 (.inl (x4 z hz)),x5⟩⟩
  ·rw[h.M,h.par,a.mem,a.acts]at d2;have hu:u=v:=hu;subst hu;exact⟨by rw[d3,a.mem],.inr ⟨P1.D,P1.D_str,vP,a.sub,fun z hz=>(hD z).2 (.inl hz),d2⟩⟩
theorem SP{p b:Nat}{P:PrS}(h:Ax Bs w g G)(hBs:Bs<=w.heap.size)(hI:PlI n T0 L0 sd T G)(hT:T<=4000)(hi:G.ps[p]? =some (b,P)):Calls prog 39 #[At g,At b] w fun e w'=>e= .returned (.tuple #[])/\Below Bs w w'/\∃G',Ax Bs w' g G'/\PlI n T0 L0 sd (T+1) G'/\Ee p G G'/\(Hv p G' none∨∃(b:Nat) (P':PrS),G'.ps[p]? =some (b,P')/\P'.leaf=1024):=by
 have hm:=hI.inv.mem p b P hi;have hn:=hI.inv.n1;obtain⟨y,hy⟩:∃y,G.ks[P.mem]? =some y:=⟨_,AE (by rw[hI.inv.kn];exact hm.1)⟩;obtain⟨x,hx⟩:∃x,G.sg[P.mem]? =some x:=⟨_,AE (by rw[hI.inv.sgn];exact hm.1)⟩;have hlf:=hI.inv.leaf p b P hi;have k:E9 p b P.mem P.acts G.par G.M P.pay G.ks 24600 G P:=⟨hi,rfl,rfl,rfl,rfl,rfl,rfl,⟨x,hx,by have:=hI.inv.slen hx;omega⟩,by have:=hI.inv.len hi;omega,fun x hx=>(hI.inv.held p b P hi x hx).1,hlf.1⟩;refine(Lt (fun G'=>PlI n T0 L0 sd (T+1) G'/\Ee p G G') h hBs (by omega) k hy (by omega) (by omega) (fun hp=>⟨hI.actd hi,.begin hi (.inl hp)⟩) (fun hp G' hs=>⟨(hI.actd hi).sgn hs (fun b' P' hi'=>?_),.propose hi hp hs⟩) (fun _ hv=>⟨hI.actd hi,.begin hi (.inr hv)⟩) (fun G1 G2 v h1 hd hs=>⟨h1.1.sgn hs (Hv.noKey h1.1 hd),h1.2.due h1.1 hd hs⟩)).mono ?_
 ·rw[show(G.actd p b P).ps=G.ps.set p (b,{P with acts:=P.acts+1})from rfl,List.getElem?_set_self (AF.1 hi).1]at hi';injection hi' with hi'
  injection hi' with e1 e2
  subst e2;exact⟨rfl,J6 hp,Nw.prop⟩
 ·rintro e w' ⟨h1,h2,G',P',h3,h4,h5,h6⟩;exact⟨h1,h2,G',h3,h5.1,h5.2,h6.imp id fun h7=>⟨b,P',h4.hi,h7⟩⟩
def VH(Bs g n T:Nat)(T0 L0:Int)(sd:Nm)(s:Stp)(p:Nat)(G:GmS)(w:World)(e:Ending)(w':World):Prop:=
 e= .returned (.int .i64 0)/\Below Bs w w'/\∃G1 G',Ax Bs w' g G'/\PlI n T0 L0 sd (T+1) G1/\PlI n T0 L0 sd (T+1) G'/\CQ G1.ps.length G1 G'/\
  (s.kind=1->Ee p G G1/\(Hv p G1 none∨∃(b:Nat) (P':PrS),G1.ps[p]? =some (b,P')/\P'.leaf=1024))/\(s.kind=2->Ep (CY s.procs G.ps.length) (CY s.procs G.ps.length).length G G1)
theorem PQ(s:Stp)(p:Nat)(hk:s.kind=1/\s.process=(p:Int)/\p<G.ps.length∨s.kind=2)(h:Ax Bs w g G)(hBs:Bs<=w.heap.size)(hI:PlI n T0 L0 sd T G)(hT:T<=4000):Calls prog 22 #[At g,s.val] w (VH Bs g n T T0 L0 sd s p G w):=by
 have hn:=hI.inv.n1;have hps:=hI.inv.psn;have hCW:G.ps.length<=20:=by omega
 have hcl:=J1 s.procs G.ps.length;have hsm:∀(i b:Nat) (P:PrS),G.ps[i]? =some (b,P)->P.L.length<=25000:=fun i b P hi=>by have:=hI.inv.len hi;omega
 refine(N1 s (fun G'=>PlI n T0 L0 sd (T+1) G'/\(s.kind=1->Ee p G G'/\(Hv p G' none∨∃(b:Nat) (P':PrS),G'.ps[p]? =some (b,P')/\P'.leaf=1024))/\(s.kind=2->Ep (CY s.procs G.ps.length) (CY s.procs G.ps.length).length G G')) h hBs hCW (fun hk1 p' b P V hp' hP hV hB=>?_) (fun hk V A m c hV hB hm hr=>?_) (fun hk3=>?_) (fun G' hG'=>?_)).mono ?_
 ·have e:p'=p:=by
   rcases hk with h|h
   ·have:=h.2.1;omega
   ·omega
  subst e;refine(SP hV hB hI hT hP).mono ?_;rintro e w' ⟨a1,a2,G',a3,a4,a5⟩;exact⟨a1,a2,fun h2=>by omega,G',a3,a4,fun _=>a5,fun h2=>by omega⟩
 ·refine(Mk hV hB _ (Gq _ _) (fun i hi=>(H8.1 hi).1) (by omega) hsm A m c hm hr).mono ?_;rintro e w' ⟨a1,a2,a3,G',a4,a5⟩;exact⟨a1,a2,fun _=>a3,G',a4,(hI.meet a5).later (by omega),fun h1=>by omega,fun _=>by rw[hm];exact a5⟩
 ·exfalso;rcases hk with h|h <;> omega
 ·refine⟨by have:=hG'.1.inv.psn;have:=hG'.1.inv.n1;omega,fun i b P hi=>⟨by have:=hG'.1.inv.len hi;omega,fun x hx=>(hG'.1.inv.held i b P hi x hx).1⟩⟩
 ·rintro e w' ⟨hb,hK,⟨rfl,G1,G',⟨h1,h2,h2'⟩,h3,h4⟩|⟨rfl,h2,h5,h4⟩⟩
  ·exact⟨rfl,hb,G1,G',h4,h1,h1.dcd h3,h3,h2,h2'⟩
  ·exfalso;rcases hk with⟨k1,k2,k3⟩|k1
   ·have:=h5 k1;omega
   ·exact h2 k1
end
structure J9 (M:Int)(par:Nm)(h K:Nat)(DV:Nat->List Vt)(DW:Nat->Nat->List Vt):Prop where
 val:∀k,k<=K->∀v∈DV k,AW v
 str:∀k,k<K->∀i,Hn h i->Eo (DW i k)
 sub:∀k,k<K->∀i,Hn h i->(∀v∈DV k,v∈DW i k)/\∀v∈DW i k,v∈DV (k+1)
 cup:∀k,k<K->∀v∈DV (k+1),∃i,Hn h i/\v∈DW i k
 new:∀k,k<K->∀i,Hn h i->∀v∈DW i k,¬v∈DV k->v.signer=(i:Int)/\((v.kind=1/\k=0)∨
  ∃(D:List Vt) (wt:Bool),Eo D/\(∀w∈D,AW w)/\(∀w∈DV k,w∈D)/\(∀w∈D,w∈DW i k)/\Cj M par (i:Int) D (DL D) wt (some v))
 rest:∀k,k<K->∀i,Hn h i->∃wt:Bool,(2<=k->wt=true)/\Cj M par (i:Int) (DW i k) (DL (DW i k)) wt none
 start:∀v∈DV 0,∀i,Hn h i->v.signer=(i:Int)->Pc v->Alw M (Bd (Ae (xOf M) 10)) v (acS M v.slot.toNat par (DV 0))/\v.round<=3/\
  (v.kind=4->∃u∈DV 0,u.signer=(i:Int)/\u.parent=v.parent/\u.slot=v.slot/\u.kind=3/\u.round=v.round)/\(v.kind=3->v.round≠1->∃u∈DV 0,u.signer=(i:Int)/\u.parent=v.parent/\u.slot=v.slot/\u.kind=4/\u.round=v.round-1)
 uniq:∀u∈DV K,∀v∈DV K,∀i,Hn h i->u.signer=(i:Int)->R6 u v->u=v
structure Few (M:Int)(n h:Nat):Prop where
 n1:1<=n
 pop:Ae (xOf M) 10=n
 hM:InN h (xOf M)
 few:3*(n-Ae h 10)<n
section
variable {M:Int}{par:Nm}{n h K:Nat}{DV:Nat->List Vt}{DW:Nat->Nat->List Vt}
theorem Few.hq(F:Few M n h):Bd n<=Ae h 10:=by
 have:=F.few;have:=F.n1;unfold Bd;omega
theorem Few.q0(F:Few M n h):0<Bd n:=by have:=F.n1;unfold Bd;omega
theorem N7{S x:Nat}(h:InN S x):Ae S 10<=Ae x 10:=CM h 10 (AB _)
theorem Few.meet(F:Few M n h)(S S':Nat)(h1:InN S (xOf M))(h2:InN S' (xOf M))(h3:Bd n<=Ae S 10)(h4:Bd n<=Ae S' 10):∃j,j<10/\S.testBit j=true/\S'.testBit j=true/\h.testBit j=true:=by
 have hp:=F.pop;have hm:=M5 h1 h2 (by rw[hp];exact h3) (by rw[hp];exact h4) (by rw[hp];exact F.n1);rw[hp]at hm;have e1:=FI (S&&& S') h 10;have e2:Ae ((S&&& S')|||h) 10<=Ae (xOf M) 10:=N7 fun i hi hb=>by
  rw[Nat.testBit_or,Nat.testBit_and,Bool.or_eq_true,Bool.and_eq_true]at hb;rcases hb with hb|hb
  ·exact h1 i hi hb.1
  ·exact F.hM i hi hb
 have xp:0<Ae ((S&&& S')&&& h) 10:=by
  have:=F.few;have:=F.n1;unfold Sj at hm;rw[if_neg (by omega)]at hm;omega
 obtain⟨j,hj,hb⟩:=Bq 10 xp;rw[Nat.testBit_and,Nat.testBit_and,Bool.and_eq_true,Bool.and_eq_true]at hb;exact⟨j,hj,hb.1.1,hb.1.2,hb.2⟩
theorem Few.two(F:Few M n h)(hn:2<=n):Ns M (Bd n) h:=fun S h1 h2 i=>by
 refine Classical.byContradiction fun hc=>?_
 have hp:=F.pop;have e1:=FI S h 10;have e2:Ae (S|||h) 10<=Ae (xOf M) 10:=N7 fun i hi hb=>by
  rw[Nat.testBit_or,Bool.or_eq_true]at hb;rcases hb with hb|hb
  ·exact h1 i hi hb
  ·exact F.hM i hi hb
 have e3:Ae (S&&& h) 10<=Ae (Fb [i]) 10:=CM (fun j hj hb=>by
  rw[Nat.testBit_and,Bool.and_eq_true]at hb;rw[GD];exact AM.2 (Classical.byContradiction fun hne=>hc ⟨j,hj,hne,hb.1,hb.2⟩)) 10 (AB _)
 have e4:Ae (Fb [i]) 10<=1:=by
  rcases Nat.lt_or_ge i 10 with h10|h10
  ·rw[Js (by simp) (fun j hj=>by rw[AM.1 hj];exact h10)];simp
  ·refine Nat.le_of_lt_succ (Nat.lt_of_le_of_lt (Nat.le_of_eq (Nat.eq_zero_of_not_pos fun hp=>?_)) (by omega));obtain⟨j,hj,hb⟩:=Bq 10 hp;have:=AM.1 (GD.1 hb);omega
 have:=F.few;unfold Bd at h2;omega
theorem J9.run(R:J9 M par h K DV DW)(F:Few M n h){s:Nat}(hs:s<=9)(hms:(xOf M).testBit s=true)(hno:¬Gj (Bd n) (acS M s par (DV K))):Run M (Bd n) h K (fun r O x=>Jj r O (some x)) (fun k=>vS s par (DV k)) (fun k=>acS M s par (DV k)) (fun i k=>vS s par (DW i k)) (fun i k=>acS M s par (DW i k)):=by
 have hp:=F.pop;have hqe:Bd n=Bd (Ae (xOf M) 10):=by rw[hp]
 have valW:∀k,k<K->∀i,Hn h i->∀v∈DW i k,AW v:=fun k hk i hi v hv=>R.val (k+1) hk v ((R.sub k hk i hi).2 v hv)
 have ac:∀{D:List Vt},(∀v∈D,AW v)->B6 M (Bd n) (vS s par D) (acS M s par D):=fun hD=>by rw[hqe];exact Fv M s par hD
 have ups:∀d k,k+d<=K->∀v∈DV k,v∈DV (k+d):=by
  intro d
  induction d with
  |zero=>intro k _ v hv;exact hv
  |succ d ih=>
   intro k hk v hv;obtain⟨i,hi1,hi2⟩:=Bq 10 (Nat.lt_of_lt_of_le F.q0 F.hq);have:=R.sub (k+d) (by omega) i ⟨hi1,hi2⟩;exact this.2 v (this.1 v (ih k (by omega) v hv))
 have upK:∀k,k<=K->∀v∈DV k,v∈DV K:=fun k hk v hv=>by
  have:=ups (K-k) k (by omega) v hv;rwa[show k+(K-k)=K from by omega]at this
 have uq:∀u∈vS s par (DV K),∀v∈vS s par (DV K),∀i,i<10->h.testBit i=true->u.signer=(i:Int)->v.signer=(i:Int)->u.kind=v.kind->u.round=v.round->u=v:=fun u hu v hv i h1 h2 a b c d=>by
  have hu':=Bw.1 hu;have hv':=Bw.1 hv;exact R.uniq u hu'.1 v hv'.1 i ⟨h1,h2⟩ a ⟨c,by rw[hu'.2.1,hv'.2.1],d,by omega,by rw[hu'.2.2.1,hv'.2.2.1]⟩
 refine{
  q0:=F.q0,hM:=F.hM,hq:=F.hq,meet:=F.meet,
  ok:=fun k hk=>Gc (R.val k hk),acc:=fun k hk=>ac (R.val k hk),accW:=fun k hk i h1 h2=>ac (valW k hk i ⟨h1,h2⟩),
  sub:=fun k hk i h1 h2=>⟨Ie (R.sub k hk i ⟨h1,h2⟩).1,Ie (R.sub k hk i ⟨h1,h2⟩).2⟩,
  cup:=fun k hk v hv=>?_,own:=fun k hk i h1 h2 v hv hn=>?_,prop:=fun k hk h1 i hi1 hi2 v hv hv1=>?_,rest:=fun k hk i h1 h2=>?_,
  uniq:=uq,start:=fun v hv i h1 h2 hs hp=>?_,chain:=fun v hv i h1 h2 hs=>?_,car:=fun r D D' l l' x y a _ b _ c c' e=>VG F.q0 (Gc (R.val K (AB _))) F.meet uq a b c c' e}
 ·obtain⟨i,hi,hw⟩:=R.cup k hk v (Bw.1 hv).1;exact⟨i,hi.1,hi.2,Bw.2 ⟨hw,(Bw.1 hv).2⟩⟩
 ·have hv':=Bw.1 hv;obtain⟨a,b⟩:=R.new k hk i ⟨h1,h2⟩ v hv'.1 (fun hc=>hn (Bw.2 ⟨hc,hv'.2⟩));refine⟨a,fun hk1=>?_⟩;rcases b with b|⟨D,wt,d1,d2,d3,d4,sl,hsl,_,hN⟩
  ·exact absurd b.1 hk1
  ·obtain⟨r,r1,_⟩:=O4 hqe F.q0 d1 d2 hsl (by rw[hqe];exact hN);have e:sl=s:=by have:=hv'.2.1;omega
   subst e;exact⟨_,_,Ie d3,Ie d4,r⟩
 ·have hv':=Bw.1 hv;refine Classical.byContradiction fun hc=>?_
  obtain⟨_,b⟩:=R.new k hk i ⟨hi1,hi2⟩ v hv'.1 (fun hc'=>hc (Bw.2 ⟨hc',hv'.2⟩));rcases b with b|⟨D,wt,d1,d2,d3,d4,sl,hsl,_,hN⟩
  ·omega
  ·obtain⟨_,_,_,hN⟩:=hN;rcases hN with hN|⟨_,hN|⟨_,O,r,_,_,_,_,hN|⟨_,_,hN⟩⟩⟩
   ·obtain⟨_,O,k,_,_,_,_,rfl⟩:=hN;cases hv1
   ·obtain⟨_,⟨O,O',k,_,_,_,_,rfl⟩|⟨_,_,rfl⟩⟩:=hN <;> cases hv1
   ·obtain⟨_,_,⟨x,_,_,rfl⟩|⟨_,_,rfl⟩⟩:=hN <;> cases hv1
   ·obtain⟨_,_,⟨x,_,_,rfl⟩|⟨_,_,x,_,rfl⟩⟩:=hN <;> cases hv1
 ·obtain⟨wt,w1,w2⟩:=R.rest k hk i ⟨h1,h2⟩;have hN:=w2 s hs;rw[<-hqe]at hN;rcases Tn hqe (R.str k hk i ⟨h1,h2⟩) (valW k hk i ⟨h1,h2⟩) h1 (F.hM i h1 h2) hms (fun w hw hk1=>by
   unfold DL;exact List.mem_map.2 ⟨w,List.mem_filter.2 ⟨hw,decide_eq_true hk1⟩,rfl⟩) hN with ho|ho
  ·exact absurd (ho.mono fun v hv=>(ac (valW k hk i ⟨h1,h2⟩)).mono (Gc (valW k hk i ⟨h1,h2⟩)) (ac (R.val K (AB _))) (Ie fun w hw=>upK (k+1) hk w ((R.sub k hk i ⟨h1,h2⟩).2 w hw)) v hv) hno
  ·exact⟨ho.echo,fun hk2=>ho.first (w1 hk2),ho.prec,ho.prev⟩
 ·have hv':=Bw.1 hv;obtain⟨a,b,_⟩:=R.start v hv'.1 i ⟨h1,h2⟩ hs hp;have es:v.slot.toNat=s:=by rw[hv'.2.1];rfl
  rw[es,<-hqe]at a;exact⟨((ac (R.val 0 (Nat.zero_le _))).fix v hv).2 ⟨by rw[hs];exact F.hM i h1 h2,a⟩,b⟩
 ·have hv':=Bw.1 hv;have go:∀{k r:Int},k<=4->(∃u∈DV 0,u.signer=(i:Int)/\u.parent=v.parent/\u.slot=v.slot/\u.kind=k/\u.round=r)->Own (vS s par (DV 0)) i k r:=fun hk ⟨u,hu,u1,u2,u3,u4,u5⟩=>
   ⟨u,Bw.2 ⟨hu,by rw[u3];exact hv'.2.1,by rw[u2];exact hv'.2.2.1,by omega⟩,u1,u4,u5⟩
  exact⟨fun e=>go (by omega) ((R.start v hv'.1 i ⟨h1,h2⟩ hs (.inr e)).2.2.1 e),fun e e'=>go (by omega) ((R.start v hv'.1 i ⟨h1,h2⟩ hs (.inl e)).2.2.2 e e')⟩
theorem J9.out(R:J9 M par h K DV DW)(F:Few M n h)(hK:30<=K){s:Nat}(hs:s<=9)(hms:(xOf M).testBit s=true):Gj (Bd n) (acS M s par (DV K)):=by
 refine Classical.byContradiction fun hno=>hno ?_
 have U:=R.run F hs hms hno;rcases Nat.lt_or_ge n 2 with h2|h2
 ·have hn:n=1:=by have:=F.n1;omega
  obtain⟨i,hi1,hi2⟩:=Bq 10 (Nat.lt_of_lt_of_le F.q0 F.hq);refine U.live1 hK ⟨hi1,hi2⟩ fun j hj hb=>Classical.byContradiction fun hne=>?_
  have e:Ae (Fb [i,j]) 10=2:=Js (by simp;exact fun e=>hne e.symm) (fun k hk=>by simp at hk;rcases hk with rfl|rfl <;> assumption);have:Ae (Fb [i,j]) 10<=Ae (xOf M) 10:=N7 fun k hk hb2=>by
   have:=GD.1 hb2;simp at this;rcases this with rfl|rfl
   ·exact F.hM _ hk hi2
   ·exact hb
  have:=F.pop;omega
 ·exact U.live (F.two h2) hK
end
end
section

section
variable {n T:Nat}{T0 L0:Int}{s:Nm}{G:GmS}
theorem PlI.popM(h:PlI n T0 L0 s T G)(hn:n<=7):Ae (xOf G.M) 10=n:=by
 rw[h.M];rcases(by omega:n=0∨n=1∨n=2∨n=3∨n=4∨n=5∨n=6∨n=7)with rfl|rfl|rfl|rfl|rfl|rfl|rfl|rfl <;> decide
theorem PlI.hon_in(h:PlI n T0 L0 s T G){i:Nat}(hi:i<10)(hb:G.hb i=true):(xOf G.M).testBit i=true:=by
 have hb:(xOf G.hon).testBit i=true:=hb;rw[h.hon,J5 _ _ i hi,Bool.and_eq_true]at hb;exact hb.1
theorem PlI.no_conf(h:PlI n T0 L0 s T G){i j k b b':Nat}{P Q:PrS}{u v:Vt}(hi:G.ps[i]? =some (b,P))(hj:G.ps[j]? =some (b',Q))(hu:u∈P.D)(hv:v∈Q.D)(hs:u.signer=(k:Int))(hb:G.hb k=true):¬Ms u v:=fun hc=>by
 obtain⟨x,hx,rfl⟩:=PrS.mem_D.1 hu;obtain⟨y,hy,rfl⟩:=PrS.mem_D.1 hv;obtain⟨_,m,a,_,_,m1,m2,m3,_⟩:=h.inv.held i b P hi x hx;obtain⟨_,m',a',_,_,n1,n2,n3,_⟩:=h.inv.held j b' Q hj y hy;obtain⟨c1,⟨c2,c3,c4,c5,c6⟩,_⟩:=hc;have e1:m=k:=by have:x.vote.signer=(m:Int):=m1;omega
 have e2:m'=k:=by have:y.vote.signer=(m':Int):=n1;omega
 subst e1;subst e2;rw[m2]at n2;injection n2 with n2
 subst n2;exact c1 (h.inv.uniq m' a hb m2 _ m3 _ n3 ⟨c2,c4,c5,c6,c3⟩)
theorem PlI.third(h:PlI n T0 L0 s T G){i j b b':Nat}{P Q:PrS}(hi:G.ps[i]? =some (b,P))(hj:G.ps[j]? =some (b',Q))(hP:P.dd=true)(hQ:Q.dd=true)(hne:P.dec≠Q.dec):0<Ae (xOf G.M) 10/\∃l1 l2:List Vt,(∀v∈l1,v∈P.D)/\(∀v∈l2,v∈Q.D)/\I3 (xOf G.M) (l1++l2):=by
 obtain⟨l1,L1,a1,d1,e1⟩:=(h.dec i b P hi).2 hP;obtain⟨l2,L2,a2,d2,e2⟩:=(h.dec j b' Q hj).2 hQ;have d1:O8 G.M G.par l1 10 L1:=by
  rcases d1 with⟨_,d,_⟩|⟨d,_⟩
  ·exact d
  ·cases d
 have d2:O8 G.M G.par l2 10 L2:=by
  rcases d2 with⟨_,d,_⟩|⟨d,_⟩
  ·exact d
  ·cases d
 have hs:L1.map (·.slot)=L2.map (·.slot):=d1.1.trans d2.1.symm;have hl:L1.length=L2.length:=by
  have:=congrArg List.length hs;rwa[Ab,Ab]at this
 obtain⟨k,x,y,hx,hy,hxy⟩:∃(k:Nat) (x y:Oc),L1[k]? =some x/\L2[k]? =some y/\FR x≠FR y:=by
  refine Classical.byContradiction fun hno=>hne ?_
  rw[e1,e2];apply List.ext_getElem?;intro k;rw[AV,AV];rcases hx:L1[k]? with _|x
  ·rw[List.getElem?_eq_none (by have:=List.getElem?_eq_none_iff.1 hx;omega)]
  ·obtain⟨y,hy⟩:∃y,L2[k]? =some y:=⟨_,AE (by have:=(AF.1 hx).1;omega)⟩;rw[hy];show some (FR x)=some (FR y);exact congrArg some (Classical.byContradiction fun hc=>hno ⟨k,x,y,hx,hy,hc⟩)
 have hsl:x.slot=y.slot:=by
  have:=congrArg (fun l=>l[k]?) hs;simp only[AV,hx,hy,Option.map_some,Option.some.injEq]at this;exact this
 have hv:x.value≠y.value:=fun e=>hxy (by unfold FR;rw[hsl,e])
 have xp:0<Ae (xOf G.M) 10:=by
  have h1:=congrArg (fun l=>l[k]?) d1.1;simp only[AV,hx,Option.map_some]at h1;obtain⟨m,hm,_⟩:=Option.map_eq_some_iff.1 h1.symm;obtain⟨h2,h3⟩:=C9.1 (AN hm);refine Nat.pos_of_ne_zero fun h0=>?_
  have:=CM (a:=2^m) (b:=xOf G.M) (fun i _ hb=>by
   rw[Nat.testBit_two_pow]at hb;have:m=i:=of_decide_eq_true hb;rw[<-this];exact h3) 10 (AB _)
  rw[h0]at this;rcases(by omega:m=0∨m=1∨m=2∨m=3∨m=4∨m=5∨m=6∨m=7∨m=8∨m=9)with rfl|rfl|rfl|rfl|rfl|rfl|rfl|rfl|rfl|rfl <;> exact absurd this (by decide)
 obtain⟨_,O1,o1,q1,_⟩:=d1.2 x (AN hx);obtain⟨_,O2,o2,q2,_⟩:=d2.2 y (AN hy);rw[<-hsl]at o2;exact⟨xp,l1,l2,a1,a2,L4 (Ox o1 xp) (Ox o2 xp) xp (q1 x Am).2 (q2 y Am).2 hv⟩
theorem PlI.agree(h:PlI n T0 L0 s T G)(hn:n<=7){i j b b':Nat}{P Q:PrS}(hi:G.ps[i]? =some (b,P))(hj:G.ps[j]? =some (b',Q))(hP:P.dd=true)(hQ:Q.dd=true)(hfew:3*((n:Int)-(Ae (xOf G.hon) 10:Nat))<n):P.dec=Q.dec:=by
 refine Classical.byContradiction fun hne=>?_
 obtain⟨xp,l1,l2,a1,a2,t,ht,hle,yF⟩:=h.third hi hj hP hQ hne;have hoff:∀k,k<10->t.testBit k=true->(xOf G.hon).testBit k=false:=fun k hk hb=>by
  rcases hh:(xOf G.hon).testBit k with _|_
  ·rfl
  ·exfalso;obtain⟨u,hu,v,hv,hs,hc⟩:=yF k hk hb;have pick:∀u∈l1++l2,∃(m c:Nat) (R:PrS),G.ps[m]? =some (c,R)/\u∈R.D:=fun u hu=>by
    rcases AP.1 hu with hu|hu
    ·exact⟨i,b,P,hi,a1 u hu⟩
    ·exact⟨j,b',Q,hj,a2 u hu⟩
   obtain⟨_,_,_,h1,h2⟩:=pick u hu;obtain⟨_,_,_,h3,h4⟩:=pick v hv;exact h.no_conf h1 h3 h2 h4 hs hh hc
 have e1:=FI t (xOf G.hon) 10;have e2:Ae (t&&& xOf G.hon) 10=0:=by
  refine Nat.eq_zero_of_not_pos fun hp=>?_
  obtain⟨k,hk,hb⟩:=Bq 10 hp;rw[Nat.testBit_and,Bool.and_eq_true]at hb;rw[hoff k hk hb.1]at hb;cases hb.2
 have e3:Ae (t|||xOf G.hon) 10<=Ae (xOf G.M) 10:=CM (fun k hk hb=>by
  rw[Nat.testBit_or,Bool.or_eq_true]at hb;rcases hb with hb|hb
  ·exact ht k hk hb
  ·exact h.hon_in hk hb) 10 (AB _)
 rw[h.popM hn]at e3 hle xp;unfold Sj at hle;rw[if_neg (by omega)]at hle;omega
end
end
section
open Go.RowKit
abbrev GmS.hm(G:GmS):Nat:=xOf G.hon
structure WOk (M:Int)(par:Nm)(k i:Nat)(V W:List Vt):Prop where
 str:Eo W
 val:∀v∈W,AW v
 sub:∀v∈V,v∈W
 new:∀v∈W,¬v∈V->v.signer=(i:Int)/\((v.kind=1/\k=0)∨
  ∃(D:List Vt) (wt:Bool),Eo D/\(∀w∈D,AW w)/\(∀w∈V,w∈D)/\(∀w∈D,w∈W)/\Cj M par (i:Int) D (DL D) wt (some v))
 rest:∃wt:Bool,(2<=k->wt=true)/\Cj M par (i:Int) W (DL W) wt none
def If(M:Int)(par:Nm)(h:Nat)(V:List Vt):Prop:=∀v∈V,∀i,Hn h i->v.signer=(i:Int)->Pc v->Alw M (Bd (Ae (xOf M) 10)) v (acS M v.slot.toNat par V)/\v.round<=3/\
  (v.kind=4->∃u∈V,u.signer=(i:Int)/\u.parent=v.parent/\u.slot=v.slot/\u.kind=3/\u.round=v.round)/\(v.kind=3->v.round≠1->∃u∈V,u.signer=(i:Int)/\u.parent=v.parent/\u.slot=v.slot/\u.kind=4/\u.round=v.round-1)
structure F0 (G:GmS)(i a:Nat)(pr:Prop)(P:PrS):Prop where
 at_:∃b,G.ps[i]? =some (b,P)
 mem:P.mem=i
 acts:(a:Int)<=P.acts
 prop:pr->Du G.par i P.D=true∨¬AW (Fh G.par i P.pay)
structure SQ (M:Int)(par:Nm)(h k:Nat)(DV:Nat->List Vt)(DW:Nat->Nat->List Vt):Prop where
 ok:∀j,j<k->∀i,Hn h i->WOk M par j i (DV j) (DW i j)
 uni:∀j,j+1<k->∀v,v∈DV (j+1)↔∃i,Hn h i/\v∈DW i j
 start:0<k->If M par h (DV 0)
def PR(k:Nat)(G:GmS):Prop:=∃(DV:Nat->List Vt) (DW:Nat->Nat->List Vt),SQ G.M G.par G.hm k DV DW/\∀i,Hn G.hm i->∃P,F0 G i k (0<k) P/\(0<k->P.D=DW i (k-1))
def JA(k p:Nat)(G:GmS):Prop:=∃(DV:Nat->List Vt) (DW:Nat->Nat->List Vt),SQ G.M G.par G.hm k DV DW/\(0<k->∀v,v∈DV k↔∃i,Hn G.hm i/\v∈DW i (k-1))/\(∀v∈DV k,AW v)/\If G.M G.par G.hm (DV 0)/\
 (∀i,Hn G.hm i->i<p->WOk G.M G.par k i (DV k) (DW i k)/\∃P,F0 G i (k+1) True P/\P.D=DW i k)/\(∀i,Hn G.hm i->p<=i->∃P,F0 G i k (0<k) P/\∀v,v∈P.D↔v∈DV k)
def EN(G:GmS):Prop:=∀i,Hn G.hm i->∃(b:Nat) (P:PrS),G.ps[i]? =some (b,P)/\P.dd=true
section
variable {n T k p:Nat}{T0 L0:Int}{sd:Nm}{G G1 G2:GmS}
theorem PlI.proc(h:PlI n T0 L0 sd T G)(hn:n<=7){i:Nat}(hi:Hn G.hm i):i<n/\∃(b:Nat) (P:PrS) (y:Value×List Vt),G.ps[i]? =some (b,P)/\P.mem=i/\G.sg[i]? =some y:=by
 have hin:i<n:=by
  have:=h.hon_in hi.1 hi.2;rw[h.M,PJ hn i]at this;exact of_decide_eq_true this
 obtain⟨⟨b,P⟩,hP⟩:∃x,G.ps[i]? =some x:=⟨_,AE (by have:=h.inv.psn.1;omega)⟩;obtain⟨y,hy⟩:∃y,G.sg[i]? =some y:=⟨_,AE (by rw[h.inv.sgn];exact hin)⟩;exact⟨hin,b,P,y,hP,(h.inv.mem i b P hP).2.1 hin,hy⟩
theorem PlI.vals(h:PlI n T0 L0 sd T G){i b:Nat}{P:PrS}(hi:G.ps[i]? =some (b,P)):∀v∈P.D,AW v:=PrS.D_valid fun x hx=>(h.inv.held i b P hi x hx).1
theorem PlI.mine(h:PlI n T0 L0 sd T G){i j b b':Nat}{P Q:PrS}{y:Value×List Vt}(hj:Hn G.hm j)(hQ:G.ps[j]? =some (b',Q))(hy:G.sg[j]? =some y)(hi:G.ps[i]? =some (b,P)){v:Vt}(hv:v∈P.D)(hs:v.signer=(j:Int)):v∈y.2/\v∈Q.D:=by
 obtain⟨x,hx,rfl⟩:=PrS.mem_D.1 hv;obtain⟨_,m,y',_,_,g1,g2,g3,_⟩:=h.inv.held i b P hi x hx;have g1:x.vote.signer=(m:Int):=g1;have:m=j:=by omega
 subst this;rw[hy]at g2;injection g2 with g2
 subst g2;exact⟨g3,h.inv.keep m b' Q y hj.2 hQ hy _ g3⟩
theorem Mv{α:Type}[DecidableEq α]:∀(l L:List α),l.Nodup->(∀x∈l,x∈L)->l.length<=L.length
 |[],_,_,_=>Nat.zero_le _
 |x::l,L,h,hs=>by
  rw[List.nodup_cons]at h;have hx:=hs x Am;have:=Mv l (L.erase x) h.2 fun y hy=>(List.mem_erase_of_ne (fun e=>h.1 (by rw[<-e];exact hy))).2 (hs y (List.mem_cons_of_mem _ hy))
  have h1:=List.length_erase_of_mem hx;have h2:=List.length_pos_of_mem hx;rw[Ag];omega
theorem PlI.leaves(h:PlI n T0 L0 sd T G){i b:Nat}{P:PrS}{y:Value×List Vt}(hi:Hn G.hm i)(hP:G.ps[i]? =some (b,P))(hy:G.sg[i]? =some y):P.leaf<=520:=by
 have H:=h.inv.hn i b P y hi.2 hP hy;rw[H.leaf]
 let f:Vt->Nat:=fun v=>((v.kind.toNat-1)*10+v.slot.toNat)*13+v.round.toNat
 have bd:∀v∈y.2,(1<=v.kind/\v.kind<=4)/\(0<=v.slot/\v.slot<=9)/\(0<=v.round/\v.round<=12):=fun v hv=>by
  have hv1:=(h.inv.sgd i y hy v hv).1;have hk:=(H.key v hv).1;have k1:=hv1.1.1;rcases(by omega:(v.kind=1∨v.kind=2)∨v.kind=3∨v.kind=4)with e|e|e
  ·have:=hv1.2.2.2.2.1 e;omega
  ·have:=hv1.2.2.2.2.2.1 e;omega
  ·have:=hv1.2.2.2.2.2.2.1 e;omega
 have inj:(y.2.map f).Nodup:=by
  refine List.Pairwise.map f (R:=fun a b=>a∈y.2/\b∈y.2/\a≠b) (fun a b ⟨ha,hb,hne⟩ e=>hne ?_) (List.Pairwise.imp_of_mem (fun ha hb hne=>⟨ha,hb,hne⟩) H.nd);have b1:=bd a ha;have b2:=bd b hb;have e:((a.kind.toNat-1)*10+a.slot.toNat)*13+a.round.toNat=((b.kind.toNat-1)*10+b.slot.toNat)*13+b.round.toNat:=e;refine h.inv.uniq i y hi.2 hy a ha b hb ⟨by omega,by omega,by omega,by rw[(h.inv.sgd i y hy a ha).2,(h.inv.sgd i y hy b hb).2],by rw[(H.key a ha).2,(H.key b hb).2]⟩
 have:=Mv (y.2.map f) (List.range 520) inj fun x hx=>by
  obtain⟨v,hv,rfl⟩:=List.mem_map.1 hx;have b1:=bd v hv;rw[List.mem_range];show((v.kind.toNat-1)*10+v.slot.toNat)*13+v.round.toNat<520;omega
 rwa[Ab,List.length_range]at this
end
section
variable {n T k p:Nat}{T0 L0:Int}{sd:Nm}{G G1 G2:GmS}
structure T9 (M:Int)(par:Nm)(P P2:PrS):Prop where
 L:P2.L=P.L
 mem:P2.mem=P.mem
 acts:P2.acts=P.acts
 pay:P2.pay=P.pay
 dd:P.dd=true->P2.dd=true
 dec:P2.dd=false->∃L,Nx M par P.D L false
theorem CQ.each(h:CQ G1.ps.length G1 G2):G2.M=G1.M/\G2.par=G1.par/\G2.hon=G1.hon/\∀(i b:Nat) (P:PrS),G1.ps[i]? =some (b,P)->∃P2,G2.ps[i]? =some (b,P2)/\T9 G1.M G1.par P P2:=by
 obtain⟨ps',rfl,hl,hx⟩:=h;refine⟨rfl,rfl,rfl,fun i b P hi=>?_⟩;have hil:=(AF.1 hi).1;obtain⟨⟨b',P2⟩,h2⟩:∃x,ps'[i]? =some x:=⟨_,AE (by omega)⟩;obtain⟨P0,h3,h4⟩:=hx i b' P2 h2;rw[hi]at h3;injection h3 with h3
 injection h3 with e1 e2
 subst e1;subst e2;rw[if_pos hil]at h4;refine⟨P2,h2,?_⟩;obtain⟨v,d,ok,he,⟨hd,h5⟩|⟨hd,L,h5,h6,h7⟩⟩:=h4
 ·rw[h5];exact⟨rfl,rfl,rfl,rfl,id,fun h=>absurd (hd.symm.trans h) (by decide)⟩
 ·subst he;exact⟨rfl,rfl,rfl,rfl,fun h=>absurd (hd.symm.trans h) (by decide),fun h=>by
   have h:ok=false:=h;subst h;exact⟨L,h6⟩⟩
theorem T9.D{M:Int}{par:Nm}{P P2:PrS}(h:T9 M par P P2):P2.D=P.D:=by
 show EY (P2.L.map Sg.vs)=EY (P.L.map Sg.vs);rw[h.L]
theorem F0.same{i a:Nat}{pr:Prop}{P P2:PrS}{b:Nat}(h:F0 G1 i a pr P)(hs:T9 G1.M G1.par P P2)(hp:G2.par=G1.par)(h2:G2.ps[i]? =some (b,P2)):F0 G2 i a pr P2:=
 ⟨⟨b,h2⟩,by rw[hs.mem,h.mem],by rw[hs.acts];exact h.acts,fun hq=>by rw[hp,hs.D,hs.pay];exact h.prop hq⟩
theorem F0.weak{i a a':Nat}{pr pr':Prop}{P:PrS}(h:F0 G i a pr P)(ha:a'<=a)(hp:pr'->pr):F0 G i a' pr' P:=
 ⟨h.at_,h.mem,by have:=h.acts;omega,fun hq=>h.prop (hp hq)⟩
theorem VI{idx:List Nat}{P:PrS}{v:Value}{L:List Sg}(h:L.map Sg.vs=Cc (P.L.map Sg.vs++(G.all idx).map Sg.vs))(u:Vt):u∈(P.more v L).D↔u∈P.D∨∃j∈idx,∃(b:Nat) (Q:PrS),G.ps[j]? =some (b,Q)/\u∈Q.D:=by
 show u∈EY (L.map Sg.vs)↔u∈EY (P.L.map Sg.vs)∨_;rw[Cf,Cf,h,Gp,Ad,AP];refine or_congr Iff.rfl ?_;rw[List.map_map,List.mem_map];constructor
 ·rintro⟨x,hx,rfl⟩;obtain⟨j,hj,hx⟩:=List.mem_flatMap.1 hx;unfold GmS.PL at hx;rw[List.getD_eq_getElem?_getD,AV]at hx;rcases hi:G.ps[j]? with _|⟨b,Q⟩
  ·rw[hi]at hx;simp at hx
  ·rw[hi]at hx;exact⟨j,hj,b,Q,hi,PrS.mem_D.2 ⟨x,hx,rfl⟩⟩
 ·rintro⟨j,hj,b,Q,hQ,hu⟩;obtain⟨x,hx,rfl⟩:=PrS.mem_D.1 hu;exact⟨x,List.mem_flatMap.2 ⟨j,hj,by rw[GmS.PL_of hQ];exact hx⟩,rfl⟩
theorem SQ.swap{M:Int}{par:Nm}{h:Nat}{DV:Nat->List Vt}{DW:Nat->Nat->List Vt}{V:List Vt}(P:SQ M par h k DV DW):SQ M par h k (fun j=>if j=k then V else DV j) DW:=by
 refine⟨fun j hj i hi=>?_,fun j hj v=>?_,fun h0=>?_⟩
 ·show WOk M par j i (if j=k then V else DV j) (DW i j);rw[if_neg (by omega)];exact P.ok j hj i hi
 ·show v∈(if j+1=k then V else DV (j+1))↔_;rw[if_neg (by omega)];exact P.uni j hj v
 ·show If M par h (if 0=k then V else DV 0);rw[if_neg (by omega)];exact P.start h0
theorem PR.meet(H:PR k G)(hI:PlI n T0 L0 sd T G)(hn:n<=7)(F:Few G.M n G.hm){idx:List Nat}(hx:∀i,i∈idx↔Hn G.hm i)(hm:Ep idx idx.length G G1)(hd:CQ G1.ps.length G1 G2){T':Nat}(hI2:PlI n T0 L0 sd T' G2)(h3:k=0->∀i,Hn G.hm i->∀y,G.sg[i]? =some y->∀v∈y.2,v.round<=3):JA k 0 G2/\G2.M=G.M/\G2.par=G.par/\G2.hon=G.hon:=by
 obtain⟨DV,DW,hP,hp⟩:=H;obtain⟨d1,d2,d3,d4⟩:=hd.each;obtain⟨ps',rfl,hl,hx'⟩:=hm;have d1:G2.M=G.M:=d1;have d2:G2.par=G.par:=d2;have d3:G2.hon=G.hon:=d3
 --what all hCR
 have all:∀i,Hn G.hm i->∃(b:Nat) (P P2:PrS),G.ps[i]? =some (b,P)/\G2.ps[i]? =some (b,P2)/\P2.mem=P.mem/\P2.acts=P.acts/\P2.pay=P.pay/\(∀u,u∈P2.D↔∃j,Hn G.hm j/\∃(b:Nat) (Q:PrS),G.ps[j]? =some (b,Q)/\u∈Q.D)/\∀u∈P.D,u∈P2.D:=fun i hi=>by
  obtain⟨hin,b,P,y,hPi,_,_⟩:=hI.proc hn hi;have hil:=(AF.1 hPi).1;obtain⟨⟨b',P1⟩,h1⟩:∃x,ps'[i]? =some x:=⟨_,AE (by omega)⟩;obtain⟨P0,g1,g2⟩:=hx' i b' P1 h1;rw[hPi]at g1;injection g1 with g1
  injection g1 with e1 e2
  subst e1;subst e2;rw[AT (AB _)]at g2;rcases g2 with⟨_,v,L,rfl,hL⟩|⟨hno,_⟩
  ·obtain⟨P2,g3,g4⟩:=d4 i b (P.more v L) h1;have key:∀u,u∈P2.D↔∃j,Hn G.hm j/\∃(b:Nat) (Q:PrS),G.ps[j]? =some (b,Q)/\u∈Q.D:=fun u=>by
    rw[g4.D,VI hL];constructor
    ·rintro(h|⟨j,hj,r⟩)
     ·exact⟨i,hi,b,P,hPi,h⟩
     ·exact⟨j,(hx j).1 hj,r⟩
    ·rintro⟨j,hj,r⟩;exact .inr ⟨j,(hx j).2 hj,r⟩
   exact⟨b,P,P2,hPi,g3,g4.mem,g4.acts,g4.pay,key,fun u hu=>(key u).2 ⟨i,hi,b,P,hPi,hu⟩⟩
  ·exact absurd ((hx i).2 hi) hno
 obtain⟨i0,hi1,hi2⟩:=Bq 10 (Nat.lt_of_lt_of_le F.q0 F.hq);have hi0:Hn G.hm i0:=⟨hi1,hi2⟩;obtain⟨b0,P0,Q0,e1,e2,_,_,_,e3,e4⟩:=all i0 hi0;have hq0:=hI2.vals e2;have hmm:G2.hm=G.hm:=by show xOf G2.hon=xOf G.hon;rw[d3]
 have hVS:k=0->If G.M G.par G.hm Q0.D:=fun hk0 v hv i hi hs hpc=>by
  obtain⟨hin,b,P,y,hPi,_,hy⟩:=hI.proc hn hi;obtain⟨j,hj,bj,Qj,hQj,hvj⟩:=(e3 v).1 hv;obtain⟨m1,m2⟩:=hI.mine hi hPi hy hQj hvj hs;have HH:=hI.inv.hn i b P y hi.2 hPi hy;have yC:=(hI.inv.sgd i y hy v m1).1;have upQ:∀u∈P.D,u∈Q0.D:=fun u hu=>(e3 u).2 ⟨i,hi,b,P,hPi,hu⟩
  have wit:∀{u:Vt},u∈y.2->u∈Q0.D/\u.signer=(i:Int)/\u.parent=v.parent:=fun hu=>
   ⟨upQ _ (hI.inv.keep i b P y hi.2 hPi hy _ hu),(hI.inv.sgd i y hy _ hu).2,by rw[(HH.key _ hu).2,(HH.key v m1).2]⟩
  refine⟨(HH.acc v m1 hpc).grow yC (hI.vals hPi) hq0 upQ,h3 hk0 i hi y hy v m1,fun e=>?_,fun e e'=>?_⟩
  ·obtain⟨u,hu,u1,u2,u3⟩:=(HH.chain v m1).1 e;obtain⟨a,b,c⟩:=wit hu;exact⟨u,a,b,c,u1,u2,u3⟩
  ·obtain⟨u,hu,u1,u2,u3⟩:=(HH.chain v m1).2 e e';obtain⟨a,b,c⟩:=wit hu;exact⟨u,a,b,c,u1,u2,u3⟩
 refine⟨⟨fun j=>if j=k then Q0.D else DV j,DW,?_,?_,?_,?_,fun i _ hi=>by omega,fun i hi _=>?_⟩,d1,d2,d3⟩
 ·rw[d1,d2,hmm];exact hP.swap
 ·intro h0 v;show v∈(if k=k then Q0.D else DV k)↔_;rw[if_pos rfl,e3,hmm];constructor
  ·rintro⟨j,hj,b,Q,hQ,hv⟩;obtain⟨P,hPK,hPD⟩:=hp j hj;obtain⟨b',hb'⟩:=hPK.at_;rw[hQ]at hb';injection hb' with hb'
   injection hb' with _ e
   subst e;exact⟨j,hj,by rw[<-hPD h0];exact hv⟩
  ·rintro⟨j,hj,hv⟩;obtain⟨P,hPK,hPD⟩:=hp j hj;obtain⟨b',hb'⟩:=hPK.at_;exact⟨j,hj,b',P,hb',by rw[hPD h0];exact hv⟩
 ·show∀v∈(if k=k then Q0.D else DV k),AW v;rw[if_pos rfl];exact hq0
 ·rw[d1,d2,hmm];by_cases h0:k=0
  ·show If G.M G.par G.hm (if 0=k then Q0.D else DV 0);rw[if_pos h0.symm];exact hVS h0
  ·show If G.M G.par G.hm (if 0=k then Q0.D else DV 0);rw[if_neg (fun e=>h0 e.symm)];exact hP.start (by omega)
 ·rw[hmm]at hi;obtain⟨b,P,P2,g1,g2,g3,g4,g5,g6,g7⟩:=all i hi;obtain⟨P',hPK,_⟩:=hp i hi;obtain⟨b',hb'⟩:=hPK.at_;rw[g1]at hb';injection hb' with hb'
  injection hb' with _ e
  subst e;refine⟨P2,⟨⟨b,g2⟩,by rw[g3,hPK.mem],by rw[g4];exact hPK.acts,fun h0=>?_⟩,fun v=>?_⟩
  ·rw[d2,g5];exact(hPK.prop h0).imp (fun h=>LB h g7) id
  ·show v∈P2.D↔v∈(if k=k then Q0.D else DV k);rw[if_pos rfl,g6,e3]
theorem JA.act(H:JA k p G)(hI:PlI n T0 L0 sd T G)(hn:n<=7)(hp:Hn G.hm p)(ht:Ee p G G1)(hf:Hv p G1 none∨∃(b:Nat) (P':PrS),G1.ps[p]? =some (b,P')/\P'.leaf=1024){T':Nat}(hI1:PlI n T0 L0 sd T' G1)(hd:CQ G1.ps.length G1 G2):JA k (p+1) G2/\G2.M=G.M/\G2.par=G.par/\G2.hon=G.hon:=by
 obtain⟨DV,DW,hP,hu,hv,hs,h1,h2⟩:=H;obtain⟨d1,d2,d3,d4⟩:=hd.each;have e1:G2.M=G.M:=d1.trans ht.M;have e2:G2.par=G.par:=d2.trans ht.par;have e3:G2.hon=G.hon:=d3.trans ht.hon;have hmm:G2.hm=G.hm:=by show xOf G2.hon=xOf G.hon;rw[e3]
 have hm1:G1.hm=G.hm:=by show xOf G1.hon=xOf G.hon;rw[ht.hon]
 obtain⟨b,P,P1,a1,a2,A⟩:=ht.me;obtain⟨P',K,hD⟩:=h2 p hp (AB _);obtain⟨b',hb'⟩:=K.at_;rw[a1]at hb';injection hb' with hb'
 injection hb' with _ e
 subst e;have yM:P.mem=p:=K.mem;have val1:=hI1.vals a2;obtain⟨hin,b'',P'',y,hy1,_,hy2⟩:=hI1.proc hn (i:=p) (by rw[hm1];exact hp);rw[a2]at hy1;injection hy1 with hy1
 injection hy1 with _ e
 subst e;have lf1:=hI1.leaves (by rw[hm1];exact hp) a2 hy2;obtain⟨_,b3,P3,y3,hy3,_,hy4⟩:=hI.proc hn hp;rw[a1]at hy3;injection hy3 with hy3
 injection hy3 with _ e
 subst e;have lf:=hI.leaves hp a1 hy4;have prop1:Du G.par p P1.D=true∨¬AW (Fh G.par p P1.pay):=by
  rw[A.pay,<-yM];exact A.prop.imp id fun h hv=>h ⟨hv,by omega⟩
 have hW:WOk G.M G.par k p (DV k) P1.D:=by
  refine⟨P1.D_str,val1,fun v hv=>A.sub v ((hD v).2 hv),fun v hv hn=>?_,?_⟩
  ·obtain⟨n1,n2⟩:=A.new v hv fun hc=>hn ((hD v).1 hc)
   rw[yM]at n1 n2;refine⟨n1,?_⟩;rcases n2 with⟨rfl,n3⟩|⟨D,x1,x2,x3,x4,x5⟩
   ·left;refine⟨rfl,Classical.byContradiction fun h0=>?_⟩;rcases K.prop (by omega)with h|h
    ·rw[h]at n3;cases n3
    ·exact h (val1 _ hv)
   ·exact .inr ⟨D,_,x1,x2,fun w hw=>x3 w ((hD w).2 hw),x4,x5⟩
  ·rcases hf with⟨bf,Pf,f1,f2⟩|⟨bf,Pf,f1,f2⟩
   ·rw[a2]at f1;injection f1 with f1
    injection f1 with _ e
    subst e;rw[ht.M,ht.par,A.mem,yM]at f2;exact⟨_,fun h2=>decide_eq_true (by rw[A.acts];have:=K.acts;omega),f2⟩
   ·rw[a2]at f1;injection f1 with f1
    injection f1 with _ e
    subst e;omega
 obtain⟨P2,g1,g2⟩:=d4 p b P1 a2;obtain⟨DX,x1,x2⟩:∃DX:Nat->Nat->List Vt,DX p k=P1.D/\∀i j,¬(i=p/\j=k)->DX i j=DW i j:=⟨fun i j=>if i=p/\j=k then P1.D else DW i j,if_pos ⟨rfl,rfl⟩,fun i j h=>if_neg h⟩;refine⟨⟨DV,DX,?_,?_,hv,by rw[e1,e2,hmm];exact hs,fun i hi hip=>?_,fun i hi hip=>?_⟩,e1,e2,e3⟩
 ·rw[e1,e2,hmm];refine⟨fun j hj i hi=>?_,fun j hj v=>?_,hP.start⟩
  ·rw[x2 _ _ (fun h=>by omega)];exact hP.ok j hj i hi
  ·rw[hP.uni j hj v];constructor
   ·rintro⟨i,hi,h⟩;exact⟨i,hi,by rw[x2 _ _ (fun h=>by omega)];exact h⟩
   ·rintro⟨i,hi,h⟩;rw[x2 _ _ (fun h=>by omega)]at h;exact⟨i,hi,h⟩
 ·intro h0 v;rw[hmm,hu h0 v];constructor
  ·rintro⟨i,hi,h⟩;exact⟨i,hi,by rw[x2 _ _ (fun h=>by omega)];exact h⟩
  ·rintro⟨i,hi,h⟩;rw[x2 _ _ (fun h=>by omega)]at h;exact⟨i,hi,h⟩
 ·rw[hmm]at hi;rw[e1,e2];by_cases e:i=p
  ·subst e;rw[x1];refine⟨hW,P2,⟨⟨b,g1⟩,by rw[g2.mem,A.mem,yM],by rw[g2.acts,A.acts];have:=K.acts;omega,fun _=>?_⟩,g2.D⟩;rw[e2,g2.D,g2.pay];exact prop1
  ·rw[x2 _ _ (fun h=>e h.1)];obtain⟨w1,P',K',hD'⟩:=h1 i hi (by omega);obtain⟨bi,hbi⟩:=K'.at_;have hDD:G1.ps[i]? =some (bi,P'):=by rw[ht.oth i e];exact hbi
   obtain⟨P2',q1,q2⟩:=d4 i bi P' hDD;have K1:F0 G1 i (k+1) True P':=⟨⟨bi,hDD⟩,K'.mem,K'.acts,by rw[ht.par];exact K'.prop⟩;exact⟨w1,P2',K1.same q2 d2 q1,by rw[q2.D];exact hD'⟩
 ·rw[hmm]at hi;have e:i≠p:=by omega
  obtain⟨P',K',hD'⟩:=h2 i hi (by omega);obtain⟨bi,hbi⟩:=K'.at_;have hDD:G1.ps[i]? =some (bi,P'):=by rw[ht.oth i e];exact hbi
  obtain⟨P2',q1,q2⟩:=d4 i bi P' hDD;have K1:F0 G1 i k (0<k) P':=⟨⟨bi,hDD⟩,K'.mem,K'.acts,by rw[ht.par];exact K'.prop⟩;exact⟨P2',K1.same q2 d2 q1,by rw[q2.D];exact hD'⟩
theorem JA.pass(H:JA k p G)(hp:¬Hn G.hm p):JA k (p+1) G:=by
 obtain⟨DV,DW,hP,hu,hv,hs,h1,h2⟩:=H;exact⟨DV,DW,hP,hu,hv,hs,fun i hi hip=>h1 i hi (by have:i≠p:=fun e=>hp (e▸hi);omega),fun i hi hip=>h2 i hi (by omega)⟩
theorem JA.over(H:JA k p G)(hp:∀i,Hn G.hm i->i<p):PR (k+1) G:=by
 obtain⟨DV,DW,hP,hu,hv,hs,h1,h2⟩:=H;refine⟨DV,DW,⟨fun j hj i hi=>?_,fun j hj v=>?_,fun _=>hs⟩,fun i hi=>?_⟩
 ·rcases Nat.lt_or_ge j k with h|h
  ·exact hP.ok j h i hi
  ·have e:j=k:=by omega
   subst e;exact(h1 i hi (hp i hi)).1
 ·rcases Nat.lt_or_ge (j+1) k with h|h
  ·exact hP.uni j h v
  ·have e:k=j+1:=by omega
   subst e;exact hu (by omega) v
 ·obtain⟨_,P,K,hD⟩:=h1 i hi (hp i hi);exact⟨P,K.weak (AB _) (fun _=>trivial),fun _=>by rw[hD];rfl⟩
theorem JA.decided(H:JA k 0 G2)(hI:PlI n T0 L0 sd T G2)(hn:n<=7)(F:Few G2.M n G2.hm)(hk:30<=k)(hd:CQ G1.ps.length G1 G2)(hl:G2.ps.length=G1.ps.length):EN G2:=by
 intro i hi;obtain⟨hin,b,P2,y,hP2,hm,hy⟩:=hI.proc hn hi;refine⟨b,P2,hP2,?_⟩;cases hdd:P2.dd with
 |true=>rfl
 |false=>
  exfalso;obtain⟨DV,DW,hP,hu,hv,hs,h1,h2⟩:=H;obtain⟨P',K',hD⟩:=h2 i hi (Nat.zero_le _);obtain⟨b',hb'⟩:=K'.at_;rw[hP2]at hb';injection hb' with hb'
  injection hb' with _ e
  subst e
  --the rounds
  have val:∀j,j<=k->∀v∈DV j,AW v:=fun j hj v hvj=>by
   rcases Nat.lt_or_ge j k with h|h
   ·have W:=hP.ok j h i hi;exact W.val v (W.sub v hvj)
   ·have e:j=k:=by omega
    subst e;exact hv v hvj
  have step:∀j,j<k->∀v,v∈DV (j+1)↔∃i,Hn G2.hm i/\v∈DW i j:=fun j hj v=>by
   rcases Nat.lt_or_ge (j+1) k with h|h
   ·exact hP.uni j h v
   ·have e:k=j+1:=by omega
    subst e;exact hu (by omega) v
  have R:J9 G2.M G2.par G2.hm k DV DW:=by
   refine⟨val,fun j hj i hi=>(hP.ok j hj i hi).str,fun j hj i hi=>⟨(hP.ok j hj i hi).sub,fun v hv=>(step j hj v).2 ⟨i,hi,hv⟩⟩,fun j hj v hv=>(step j hj v).1 hv,fun j hj i hi=>(hP.ok j hj i hi).new,fun j hj i hi=>(hP.ok j hj i hi).rest,hs,fun u hu v hv m hm hsu hk=>?_⟩;obtain⟨_,bm,Pm,ym,hPm,_,hym⟩:=hI.proc hn hm;have mu:=hI.mine hm hPm hym hP2 ((hD u).2 hu) hsu;have mv:=hI.mine hm hPm hym hP2 ((hD v).2 hv) (by rw[<-hk.2.2.2.1];exact hsu);exact hI.inv.uniq m ym hm.2 hym u mu.1 v mv.1 hk
  have vP2:=hI.vals hP2;have qe:Bd n=Bd (Ae (xOf G2.M) 10):=by rw[F.pop]
  obtain⟨d1,d2,_,d4⟩:=hd.each;have hil:=(AF.1 hP2).1;obtain⟨⟨b1,P1⟩,hP1⟩:∃x,G1.ps[i]? =some x:=⟨_,AE (by omega)⟩;obtain⟨P2',g1,g2⟩:=d4 i b1 P1 hP1;rw[hP2]at g1;injection g1 with g1
  injection g1 with _ e
  subst e;obtain⟨L,hL⟩:=g2.dec hdd;rw[<-d1,<-d2,<-g2.D]at hL;rcases hL with⟨hL,_⟩|⟨_,⟨s,h10,hb,hO⟩|h0⟩
  ·cases hL
  ·refine R5 qe F.q0 P2.D_str vP2 hO ((R.out F hk (by omega) hb).mono fun v hv=>?_);exact Mh (val k (AB _)) vP2 (fun v hv=>(hD v).2 hv) v hv
  ·have:=Fs (xOf G2.M) 10;rw[h0,F.pop]at this;have:=F.n1;simp at*;omega
end
def hB(n:Nat)(G:GmS)(i:Nat):Bool:=decide (i<n)&&G.hb i
def DR(f:Nat->Bool):Nat->Nat
 |0=>0
 |p+1=>if f p then DR f p|||2^p else DR f p
theorem Mw(f:Nat->Bool):∀p,DR f p<2^p
 |0=>Nat.one_pos
 |p+1=>by
  have h:=Mw f p;have e:2^(p+1)=2^p+2^p:=by omega
  unfold DR;split
  ·exact Nat.or_lt_two_pow (by omega) (Nat.pow_lt_pow_right (by omega) (by omega))
  ·omega
theorem Ig(f:Nat->Bool)(i:Nat):∀p,(DR f p).testBit i=(decide (i<p)&&f i)
 |0=>by simp[DR]
 |p+1=>by
  have h:=Ig f i p;unfold DR;have e2:(2^p).testBit i=decide (p=i):=Nat.testBit_two_pow;by_cases hp:i=p
  ·subst hp;cases hf:f i with
   |true=>rw[if_pos rfl,Nat.testBit_or,e2];simp
   |false=>rw[if_neg (by decide),h];simp[hf]
  ·have d:decide (i<p+1)=decide (i<p):=decide_eq_decide.2 (by omega);split
   ·rw[Nat.testBit_or,h,e2,d,decide_eq_false (fun e:p=i=>hp e.symm),Bool.or_false]
   ·rw[h,d]
theorem PS(x i:Nat):inM (x:Int) i=x.testBit i:=by
 unfold inM;rw[show(x:Int)/((2^i:Nat):Int)%2=((x/2^i%2:Nat):Int)by push_cast;rfl];rw[Nat.testBit_eq_decide_div_mod_eq];have:x/2^i%2=0∨x/2^i%2=1:=by omega
 rcases this with h|h <;> rw[h] <;> rfl
theorem SR(m s:Nat)(hm:m<1048576)(hs:s<20):bits .or .i64 (m:Int) (wrap64 (2^s))=((m|||2^s:Nat):Int):=by
 have h2:2^s<1048576:=Nat.pow_lt_pow_right (n:=20) (by omega) (by omega);have e:wrap64 ((2:Int)^s)=((2^s:Nat):Int):=by
  rw[IntWalk.wrap64_in _ ⟨?_,?_⟩]
  ·simp
  ·have:(0:Int)<=(2:Int)^s:=Int.le_of_lt (Int.pow_pos (by omega));omega
  ·have:((2^s:Nat):Int)=(2:Int)^s:=by simp
   omega
 rw[e,KH m (2^s) (by omega) (by omega)]
def StH(r:Nat)(G:GmS):Prop:=r<=31/\(EN G∨r<=30/\PR r G)
def StM(r p:Nat)(G:GmS):Prop:=r<=30/\(EN G∨r<=29/\JA r p G)
section
variable {n T T' r p:Nat}{T0 L0:Int}{sd:Nm}{G G1 G2:GmS}
theorem F3(h:PlI n T0 L0 sd T G)(hn:n<=7){i:Nat}:hB n G i=true↔Hn G.hm i:=by
 unfold hB;rw[Bool.and_eq_true,decide_eq_true_iff];constructor
 ·exact fun⟨a,b⟩=>⟨by omega,b⟩
 ·exact fun a=>⟨(h.proc hn a).1,a.2⟩
theorem PlI.hbm(h:PlI n T0 L0 sd T G){i b:Nat}{P:PrS}(hi:G.ps[i]? =some (b,P)):G.hb P.mem=hB n G i:=by
 obtain⟨_,m2,m3⟩:=h.inv.mem i b P hi;unfold hB;rcases Nat.lt_or_ge i n with e|e
 ·rw[m2 e,decide_eq_true e,Bool.true_and]
 ·rw[m3 e,decide_eq_false (by omega),Bool.false_and]
theorem PlI.few(h:PlI n T0 L0 sd T G)(hn:n<=7)(hf:3*((n:Int)-(Ae (xOf G.hon) 10:Nat))<n):Few G.M n G.hm:=by
 have h1:=h.inv.n1.1;refine⟨h1,h.popM hn,fun i hi hb=>h.hon_in hi hb,?_⟩;show 3*(n-Ae (xOf G.hon) 10)<n;omega
theorem PlI.dlen(h:PlI n T0 L0 sd T G)(hn:n<=7){i b:Nat}{P:PrS}(hi:G.ps[i]? =some (b,P))(hd:P.dd=true):P.dec.length=n:=by
 obtain⟨l,L,_,hG,e⟩:=(h.dec i b P hi).2 hd;rw[e,Ab];rcases hG with⟨_,⟨h1,_⟩,_⟩|⟨h1,_⟩
 ·have:=congrArg List.length h1;rw[Ab,Ab,<-Fs,h.popM hn]at this;exact this
 ·cases h1
theorem PlI.one(h:PlI n T0 L0 sd T G)(hn:n<=7)(hf:3*((n:Int)-(Ae (xOf G.hon) 10:Nat))<n)(ha:EN G):∃E:List Ch,E.length=n/\∀i,Hn G.hm i->∃(b:Nat) (P:PrS),G.ps[i]? =some (b,P)/\P.dd=true/\P.dec=E:=by
 have F:=h.few hn hf;obtain⟨i0,hi1,hi2⟩:=Bq 10 (Nat.lt_of_lt_of_le F.q0 F.hq);obtain⟨b0,P0,e1,e2⟩:=ha i0 ⟨hi1,hi2⟩;refine⟨P0.dec,h.dlen hn e1 e2,fun i hi=>?_⟩;obtain⟨b,P,e3,e4⟩:=ha i hi;exact⟨b,P,e3,e4,h.agree hn e3 e1 e4 e2 hf⟩
theorem PlI.head0(h:PlI n T0 L0 sd T G)(hn:n<=7):StH 0 G:=by
 refine⟨by omega,.inr ⟨by omega,fun _=>[],fun _ _=>[],⟨fun j hj=>absurd hj (Nat.not_lt_zero _),fun j hj=>absurd hj (Nat.not_lt_zero _),fun h0=>absurd h0 (Nat.lt_irrefl _)⟩,fun i hi=>?_⟩⟩;obtain⟨_,b,P,_,h1,h2,_⟩:=h.proc hn hi;exact⟨P,⟨⟨b,h1⟩,h2,(h.inv.leaf i b P h1).2.1,fun h0=>absurd h0 (Nat.lt_irrefl _)⟩,fun h0=>absurd h0 (Nat.lt_irrefl _)⟩
theorem EN.act(h:EN G)(ht:Ee p G G1)(hd:CQ G1.ps.length G1 G2):EN G2:=by
 obtain⟨d1,d2,d3,d4⟩:=hd.each;have hmm:G2.hm=G.hm:=by show xOf G2.hon=xOf G.hon;rw[d3,ht.hon]
 intro i hi;rw[hmm]at hi;obtain⟨b,P,e1,e2⟩:=h i hi;obtain⟨b1,P1,f1,f2⟩:∃(b:Nat) (P1:PrS),G1.ps[i]? =some (b,P1)/\P1.dd=true:=by
  by_cases e:i=p
  ·subst e;obtain⟨b',P',P1,a1,a2,A⟩:=ht.me;rw[e1]at a1;injection a1 with a1
   injection a1 with _ e
   subst e;exact⟨b',P1,a2,by rw[A.dd];exact e2⟩
  ·exact⟨b,P,by rw[ht.oth i e];exact e1,e2⟩
 obtain⟨P2,g1,g2⟩:=d4 i b1 P1 f1;exact⟨b1,P2,g1,g2.dd f2⟩
theorem StH.meet(H:StH r G)(hno:¬EN G)(hI:PlI n T0 L0 sd T G)(hn:n<=7)(hf:3*((n:Int)-(Ae (xOf G.hon) 10:Nat))<n){idx:List Nat}(hx:∀i,i∈idx↔Hn G.hm i)(hm:Ep idx idx.length G G1)(hd:CQ G1.ps.length G1 G2)(hI2:PlI n T0 L0 sd T' G2)(h3:r=0->∀i,Hn G.hm i->∀y,G.sg[i]? =some y->∀v∈y.2,v.round<=3):StM r 0 G2/\G2.M=G.M/\G2.par=G.par/\G2.hon=G.hon:=by
 obtain⟨_,h|⟨h30,h⟩⟩:=H
 ·exact absurd h hno
 have F:=hI.few hn hf;obtain⟨g1,g2,g3,g4⟩:=h.meet hI hn F hx hm hd hI2 h3;refine⟨⟨h30,?_⟩,g2,g3,g4⟩;rcases Nat.lt_or_ge r 30 with h1|h1
 ·exact .inr ⟨by omega,g1⟩
 ·refine .inl (g1.decided hI2 hn ?_ h1 hd ?_)
  ·rw[g2];show Few G.M n (xOf G2.hon);rw[g4];exact F
  ·obtain⟨ps',rfl,hl,_⟩:=hd;exact hl
theorem StM.act(H:StM r p G)(hI:PlI n T0 L0 sd T G)(hn:n<=7)(hp:Hn G.hm p)(ht:Ee p G G1)(hf:Hv p G1 none∨∃(b:Nat) (P':PrS),G1.ps[p]? =some (b,P')/\P'.leaf=1024)(hI1:PlI n T0 L0 sd T' G1)(hd:CQ G1.ps.length G1 G2):StM r (p+1) G2/\G2.M=G.M/\G2.par=G.par/\G2.hon=G.hon:=by
 obtain⟨d1,d2,d3,d4⟩:=hd.each;obtain⟨h30,h|⟨h29,h⟩⟩:=H
 ·exact⟨⟨h30,.inl (h.act ht hd)⟩,d1.trans ht.M,d2.trans ht.par,d3.trans ht.hon⟩
 ·obtain⟨g1,g2,g3,g4⟩:=h.act hI hn hp ht hf hI1 hd;exact⟨⟨h30,.inr ⟨h29,g1⟩⟩,g2,g3,g4⟩
theorem StM.pass(H:StM r p G)(hp:¬Hn G.hm p):StM r (p+1) G:=⟨H.1,H.2.imp id fun⟨a,b⟩=>⟨a,b.pass hp⟩⟩
theorem StM.over(H:StM r p G)(hp:∀i,Hn G.hm i->i<p):StH (r+1) G:=⟨by have:=H.1;omega,H.2.imp id fun⟨a,b⟩=>⟨by omega,b.over hp⟩⟩
end
def Iz(f:Nat->Bool)(l:List (Nat×PrS))(p:Nat):Bool:=(List.range p).all fun i=>((l[i]?.map fun x=>x.2.dd).getD false||!f i)
theorem N8{f:Nat->Bool}{l:List (Nat×PrS)}{p b:Nat}{P:PrS}(h:l[p]? =some (b,P)):Iz f l (p+1)=(Iz f l p&&(P.dd||!f p)):=by
 unfold Iz;rw[List.range_succ,List.all_append,List.all_cons,List.all_nil,Bool.and_true,h];rfl
theorem QZ{n T:Nat}{T0 L0:Int}{sd:Nm}{G:GmS}(h:PlI n T0 L0 sd T G)(hn:n<=7):Iz (hB n G) G.ps G.ps.length=true↔EN G:=by
 unfold Iz;rw[List.all_eq_true];constructor
 ·intro H i hi;obtain⟨_,b,P,_,h1,_⟩:=h.proc hn hi;have:=H i (List.mem_range.2 (AF.1 h1).1);rw[h1,(F3 h hn).2 hi]at this;exact⟨b,P,h1,by simpa using this⟩
 ·intro H i hi;cases hb:hB n G i with
  |false=>simp
  |true=>
   obtain⟨b,P,h1,h2⟩:=H i ((F3 h hn).1 hb);rw[h1];simp[h2]
end
end Go.Proofs.YtadllffeoibelaaGreat
