/-
  Parts of the proof. No condition.
-/
import Derived.Test.YtadllffeoibelaaGreatS25
open Go.Proofs.Tryz
namespace Go.Proofs.YtadllffeoibelaaGreat
set_option maxRecDepth 100000
set_option maxHeartbeats 32000000
set_option linter.all false
section

def R6(u v:Vt):Prop:=u.kind=v.kind/\u.slot=v.slot/\u.round=v.round/\u.signer=v.signer/\u.parent=v.parent
abbrev GmS.hb(G:GmS)(m:Nat):Bool:=(xOf G.hon).testBit m
def Jw(ks:List KyS)(sg:List (Value×List Vt))(x:VS):Prop:=AW x.1/\∃(m:Nat) (y:Value×List Vt) (k:KyS) (l:Nat),x.1.signer=(m:Int)/\sg[m]? =some y/\x.1∈y.2/\ks[m]? =some k/\l<1024/\x.2=Ex k.seed l (Dx x.1)
structure R7 (M:Int)(par:Nm)(P:PrS)(Y:List Vt):Prop where
 leaf:P.leaf=Y.length
 nd:Y.Nodup
 key:∀v∈Y,v.kind<=4/\v.parent=par
 acc:∀v∈Y,Pc v->Alw M (Bd (Ae (xOf M) 10)) v (acS M v.slot.toNat par P.D)
 chain:∀v∈Y,(v.kind=4->∃u∈Y,u.slot=v.slot/\u.kind=3/\u.round=v.round)/\(v.kind=3->v.round≠1->∃u∈Y,u.slot=v.slot/\u.kind=4/\u.round=v.round-1)
structure Nw (M:Int)(par:Nm)(P:PrS)(v:Vt):Prop where
 key:v.kind<=4/\v.parent=par
 acc:Pc v->Alw M (Bd (Ae (xOf M) 10)) v (acS M v.slot.toNat par P.D)
 chain:(v.kind=4->∃u∈P.D,u.signer=v.signer/\u.slot=v.slot/\u.kind=3/\u.round=v.round)/\(v.kind=3->v.round≠1->∃u∈P.D,u.signer=v.signer/\u.slot=v.slot/\u.kind=4/\u.round=v.round-1)
theorem Ie{s:Nat}{p:Nm}{D D':List Vt}(h:∀v∈D,v∈D'):∀v∈vS s p D,v∈vS s p D':=fun v hv=>by
 have:=Bw.1 hv;exact Bw.2 ⟨h v this.1,this.2⟩
theorem Mh{M:Int}{s:Nat}{p:Nm}{D D':List Vt}(hD:∀v∈D,AW v)(hD':∀v∈D',AW v)(h:∀v∈D,v∈D'):∀v∈acS M s p D,v∈acS M s p D':=
 (Fv M s p hD).mono (Gc hD) (Fv M s p hD') (Ie h)
theorem Alw.grow{M:Int}{q:Nat}{v:Vt}{s:Nat}{p:Nm}{D D':List Vt}(hv:AW v)(hD:∀v∈D,AW v)(hD':∀v∈D',AW v)(h:∀v∈D,v∈D')(a:Alw M q v (acS M s p D)):Alw M q v (acS M s p D'):=
 a.mono hv (fun w hw=>hD w (Bw.1 ((Fv M s p hD).sub w hw)).1) fun w hw _=>Mh hD hD' h w hw
theorem R7.more{M:Int}{par:Nm}{P P':PrS}{Y:List Vt}(h:R7 M par P Y)(hY:∀v∈Y,AW v)(hl:P'.leaf=P.leaf)(hD:∀v∈P.D,AW v)(hD':∀v∈P'.D,AW v)(hs:∀v∈P.D,v∈P'.D):R7 M par P' Y:=
 ⟨by rw[hl];exact h.leaf,h.nd,h.key,fun v hv hp=>(h.acc v hv hp).grow (hY v hv) hD hD' hs,h.chain⟩
structure Jy (n T:Nat)(G:GmS):Prop where
 n1:1<=n/\n<=10
 kn:G.ks.length=n
 sgn:G.sg.length=n
 psn:n<=G.ps.length/\G.ps.length<=2*n
 mem:∀(i b:Nat) (P:PrS),G.ps[i]? =some (b,P)->P.mem<n/\(i<n->P.mem=i)/\(n<=i->G.hb P.mem=false)
 leaf:∀(i b:Nat) (P:PrS),G.ps[i]? =some (b,P)->P.leaf<=1024/\0<=P.acts/\P.acts<=T
 can:∀(i b:Nat) (P:PrS),G.ps[i]? =some (b,P)->Cc (P.L.map Sg.vs)=P.L.map Sg.vs
 held:∀(i b:Nat) (P:PrS),G.ps[i]? =some (b,P)->∀x∈P.L,Jw G.ks G.sg x.vs
 sgd:∀(m:Nat) (y:Value×List Vt),G.sg[m]? =some y->∀v∈y.2,AW v/\v.signer=(m:Int)
 keep:∀(m b:Nat) (P:PrS) (y:Value×List Vt),G.hb m=true->G.ps[m]? =some (b,P)->G.sg[m]? =some y->∀v∈y.2,v∈P.D
 uniq:∀(m:Nat) (y:Value×List Vt),G.hb m=true->G.sg[m]? =some y->∀u∈y.2,∀v∈y.2,R6 u v->u=v
 cnt:(G.sg.map fun y=>y.2.length).sum<=(G.ps.map fun p=>p.2.leaf).sum+T
 hn:∀(m b:Nat) (P:PrS) (y:Value×List Vt),G.hb m=true->G.ps[m]? =some (b,P)->G.sg[m]? =some y->R7 G.M G.par P y.2
theorem PrS.mem_D{P:PrS}{v:Vt}:v∈P.D↔∃x∈P.L,x.vote=v:=by
 rw[Cf,List.map_map,List.mem_map];rfl
theorem Gk{α:Type}(f:α->Nat)(c:Nat):∀l:List α,(∀x∈l,f x<=c)->(l.map f).sum<=l.length*c
 |[],_=>by simp
 |a::l,h=>by
  have:=Gk f c l (fun x hx=>h x (List.mem_cons_of_mem _ hx));have h1:=h a Am;simp only[List.map_cons,List.sum_cons,Ag,Nat.add_mul];omega
theorem Jz:∀(l:List Nat) (x:Nat),x∈l->x<=l.sum
 |[],x,h=>by cases h
 |a::l,x,h=>by
  rw[List.sum_cons];rcases List.mem_cons.1 h with rfl|h
  ·omega
  ·have:=Jz l x h;omega
theorem JJ{α:Type}(f:α->Nat):∀(l:List α) (i:Nat) (x y:α),l[i]? =some x->((l.set i y).map f).sum+f x=(l.map f).sum+f y
 |[],i,x,y,h=>by simp at h
 |a::l,0,x,y,h=>by simp at h;subst h;simp;omega
 |a::l,i+1,x,y,h=>by
  have:=JJ f l i x y (by simpa using h);simp only[List.set_cons_succ,List.map_cons,List.sum_cons];omega
theorem J0:∀(c:List VS) (s:List Vt),Dq c->(∀x∈c,x.1∈s)->c.length<=s.length
 |[],_,_,_=>by simp
 |a::c,s,hc,hs=>by
  have hc':c.Pairwise (fun x y=>Bf x.1 y.1=true)/\∀y∈c,Bf a.1 y.1=true:=by
   have:=List.pairwise_cons.1 hc;exact⟨this.2,this.1⟩
  have ha:=hs a Am;have h1:=J0 c (s.erase a.1) hc'.1 (fun x hx=>by
   refine(List.mem_erase_of_ne ?_).2 (hs x (List.mem_cons_of_mem _ hx));intro e;have:=hc'.2 x hx;rw[e,CA]at this;cases this)
  have h2:=List.length_erase_of_mem ha;have h3:=List.length_pos_of_mem ha;simp only[Ag];omega
theorem Mi{α β:Type}(f:α->List β):∀l:List α,(l.flatMap f).length=(l.map fun x=>(f x).length).sum
 |[]=>rfl
 |a::l=>by simp[Mi f l]
section
variable {n T:Nat}{G G':GmS}
theorem Jy.len(h:Jy n T G){i b:Nat}{P:PrS}(hi:G.ps[i]? =some (b,P)):P.L.length<=20480+T:=by
 have hc:(P.L.map Sg.vs).length<=(G.sg.flatMap fun y=>y.2).length:=J0 _ _ (by rw[<-h.can i b P hi];exact(DC _).asc) (fun x hx=>by
  obtain⟨s,hs,rfl⟩:=List.mem_map.1 hx;obtain⟨_,m,y,k,l,_,h2,h3,_⟩:=h.held i b P hi s hs;exact List.mem_flatMap.2 ⟨y,AN h2,h3⟩)
 rw[Ab,Mi]at hc;have h1:=h.cnt;have h2:=Gk (fun p:Nat×PrS=>p.2.leaf) 1024 G.ps (fun p hp=>by
  obtain⟨j,hj⟩:=List.getElem?_of_mem hp;exact(h.leaf j p.1 p.2 hj).1)
 have h3:=h.psn.2;have h4:=h.n1.2;omega
theorem Jy.slen(h:Jy n T G){m:Nat}{y:Value×List Vt}(hm:G.sg[m]? =some y):y.2.length<=20480+T:=by
 have h0:y.2.length<=(G.sg.map fun y=>y.2.length).sum:=Jz _ _ (List.mem_map.2 ⟨y,AN hm,rfl⟩);have h1:=h.cnt;have h2:=Gk (fun p:Nat×PrS=>p.2.leaf) 1024 G.ps (fun p hp=>by
  obtain⟨j,hj⟩:=List.getElem?_of_mem hp;exact(h.leaf j p.1 p.2 hj).1)
 have h3:=h.psn.2;have h4:=h.n1.2;omega
theorem Jy.share{T':Nat}(h:Jy n T G)(hT:T<=T')(hks:G'.ks=G.ks)(hh:G'.hon=G.hon)(hsg:G'.sg=G.sg)(hM:G'.M=G.M)(zJ:G'.par=G.par)(hps:G'.ps.length=G.ps.length)(hp:∀(i b:Nat) (P':PrS),G'.ps[i]? =some (b,P')->∃(b0:Nat) (P:PrS),G.ps[i]? =some (b0,P)/\P'.mem=P.mem/\P'.leaf=P.leaf/\0<=P'.acts/\P'.acts<=T'/\Cc (P'.L.map Sg.vs)=P'.L.map Sg.vs/\(∀v∈P.D,v∈P'.D)/\∀x∈P'.L,Jw G.ks G.sg x.vs):Jy n T' G':=by
 have hb:G'.hb=G.hb:=by unfold GmS.hb;rw[hh]
 refine⟨h.n1,by rw[hks];exact h.kn,by rw[hsg];exact h.sgn,by rw[hps];exact h.psn,?_,?_,?_,?_,by rw[hsg];exact h.sgd,?_,by rw[hsg,hb];exact h.uniq,?_,?_⟩
 ·intro i b P' hi;obtain⟨b0,P,h1,h2,_⟩:=hp i b P' hi;rw[h2,hb];exact h.mem i b0 P h1
 ·intro i b P' hi;obtain⟨b0,P,h1,h2,h3,h4,h5,_⟩:=hp i b P' hi;exact⟨by rw[h3];exact(h.leaf i b0 P h1).1,h4,h5⟩
 ·intro i b P' hi;obtain⟨b0,P,h1,h2,h3,h4,h5,h6,_⟩:=hp i b P' hi;exact h6
 ·intro i b P' hi x hx;obtain⟨b0,P,h1,h2,h3,h4,h5,h6,h7,h8⟩:=hp i b P' hi;rw[hks,hsg];exact h8 x hx
 ·intro m b P' y hm hi hy v hv;obtain⟨b0,P,h1,h2,h3,h4,h5,h6,h7,h8⟩:=hp m b P' hi;rw[hsg]at hy;rw[hb]at hm;exact h7 v (h.keep m b0 P y hm h1 hy v hv)
 ·rw[hsg];have e:(G'.ps.map fun p=>p.2.leaf)=G.ps.map fun p=>p.2.leaf:=by
   apply List.ext_getElem?;intro i;rw[AV,AV];rcases hi:G'.ps[i]? with _|⟨b,P'⟩
   ·have hl:=List.getElem?_eq_none_iff.1 hi;rw[hps]at hl;rw[List.getElem?_eq_none_iff.2 hl]
   ·obtain⟨b0,P,h1,h2,h3,_⟩:=hp i b P' hi;rw[h1];show some P'.leaf=some P.leaf;rw[h3]
  rw[e];have:=h.cnt;omega
 ·intro m b P' y hm hi hy;obtain⟨b0,P,h1,h2,h3,h4,h5,h6,h7,h8⟩:=hp m b P' hi;rw[hsg]at hy;rw[hb]at hm;rw[hM,zJ];exact(h.hn m b0 P y hm h1 hy).more (fun v hv=>(h.sgd m y hy v hv).1) h3 (PrS.D_valid fun x hx=>(h.held m b0 P h1 x hx).1) (PrS.D_valid fun x hx=>(h8 x hx).1) h7
def O7(P:PrS)(v:Vt):Prop:=∀u∈P.D,¬R6 u v
theorem K3(l:List VS):Cc (Cc l)=Cc l:=F6 (by
 rw[KL];intro i x y hx hy;have:=List.pairwise_iff_getElem.1 (DC l).asc i (i+1) (AF.1 hx).1 (AF.1 hy).1 (by omega);rw[(AF.1 hx).2,(AF.1 hy).2]at this;exact this)
theorem Jw.more{ks:List KyS}{sg:List (Value×List Vt)}{m:Nat}{y:Value×List Vt}{u:Value}{v:Vt}{x:VS}(h:Jw ks sg x)(hm:sg[m]? =some y):Jw ks (sg.set m (u,y.2++[v])) x:=by
 obtain⟨h0,m',y',k,l,h1,h2,h3,h4⟩:=h;refine⟨h0,m',if m=m' then(u,y.2++[v])else y',k,l,h1,?_,?_,h4⟩
 ·rw[List.getElem?_set];by_cases e:m=m'
  ·rw[if_pos e,if_pos e,if_pos (AF.1 hm).1]
  ·rw[if_neg e,if_neg e,h2]
 ·by_cases e:m=m'
  ·subst e;rw[hm]at h2;injection h2 with h2
   subst h2;rw[if_pos rfl];exact BB _ h3
  ·rw[if_neg e];exact h3
theorem Jy.sgn'{i:Nat}{v:Vt}(h:Jy n T G)(hs:Ke i v G G')(hf:∀(b:Nat) (P:PrS),G.ps[i]? =some (b,P)->v.signer=(P.mem:Int)/\O7 P v/\Nw G.M G.par P v):Jy n T G':=by
 obtain⟨b,P,k,sv0,sl,va,vs,L,h1,h2,h3,h4,h5,rfl⟩:=hs;obtain⟨f1,f2,f3⟩:=hf b P h1;have hil:=(AF.1 h1).1;have hml:=(AF.1 h3).1;have hmm:=h.mem i b P h1
 --what the process holds
 have hGp:∀x∈L,x.vs∈P.L.map Sg.vs∨x.vs=(v,Ex k.seed P.leaf (Dx v)):=fun x hx=>by
  have hm:x.vs∈L.map Sg.vs:=List.mem_map_of_mem hx;rw[h5]at hm;rcases AP.1 ((DC _).sub _ hm)with h|h
  ·exact .inl h
  ·exact .inr (AM.1 h)
 have hDP:∀u,u∈(P.signd va L).D↔(u∈P.D∨u=v):=fun u=>by
  show u∈EY (L.map Sg.vs)↔_;rw[Cf,h5,show(List.map (fun x:VS=>x.1) (Cc (P.L.map Sg.vs++[(v,Ex k.seed P.leaf (Dx v))])))=EY (P.L.map Sg.vs++[(v,Ex k.seed P.leaf (Dx v))])from rfl,Cf,Ad,AP];show _↔(u∈EY _∨_);rw[Cf];simp
 have get:∀{j b':Nat} {P':PrS},(G.ps.set i (b,P.signd va L))[j]? =some (b',P')->(i=j/\b'=b/\P'=P.signd va L)∨(i≠j/\G.ps[j]? =some (b',P')):=fun hj=>by
  rcases Bu hj with⟨e,e'⟩|h
  ·injection e' with e1 e2
   exact .inl ⟨e,e1,e2⟩
  ·exact .inr h
 refine⟨h.n1,h.kn,by show(G.sg.set _ _).length=n;rw[List.length_set];exact h.sgn,by show n<=(G.ps.set _ _).length/\(G.ps.set _ _).length<=_;rw[List.length_set];exact h.psn,?_,?_,?_,?_,?_,?_,?_,?_,?_⟩
 ·intro j b' P' hj;rcases get hj with⟨rfl,rfl,rfl⟩|⟨_,hj⟩
  ·exact hmm
  ·exact h.mem j b' P' hj
 ·intro j b' P' hj;rcases get hj with⟨rfl,rfl,rfl⟩|⟨_,hj⟩
  ·have:=h.leaf i b' P h1;exact⟨by show P.leaf+1<=1024;have:=h4.2;omega,this.2⟩
  ·exact h.leaf j b' P' hj
 ·intro j b' P' hj;rcases get hj with⟨rfl,rfl,rfl⟩|⟨_,hj⟩
  ·show Cc (L.map Sg.vs)=L.map Sg.vs;rw[h5,K3]
  ·exact h.can j b' P' hj
 ·intro j b' P' hj x hx;show Jw G.ks (G.sg.set P.mem (vs,sl++[v])) x.vs;rcases get hj with⟨rfl,rfl,rfl⟩|⟨_,hj⟩
  ·rcases hGp x hx with h'|h'
   ·obtain⟨y,hy,e⟩:=List.mem_map.1 h';rw[<-e];exact(h.held i b' P h1 y hy).more h3
   ·rw[h'];exact⟨h4.1,P.mem,(vs,sl++[v]),k,P.leaf,f1,List.getElem?_set_self hml,BY _ (AM.2 rfl),h2,h4.2,rfl⟩
  ·exact(h.held j b' P' hj x hx).more h3
 ·intro m y hm u hu;rcases Bu hm with⟨rfl,rfl⟩|⟨_,hm⟩
  ·rcases AP.1 hu with hu|hu
   ·exact h.sgd _ _ h3 u hu
   ·rw[AM.1 hu];exact⟨h4.1,f1⟩
  ·exact h.sgd m y hm u hu
 ·intro m b' P' y hm hj hy u hu;rcases get hj with⟨rfl,rfl,rfl⟩|⟨hne,hj⟩
  ·rw[hDP];have hmi:P.mem=i:=hmm.2.1 (by
    have:=(AF.1 hy).1;rw[show(G.setP i b' (P.signd va L)).setS P.mem vs (sl++[v])={G with ps:=G.ps.set i (b',P.signd va L),sg:=G.sg.set P.mem (vs,sl++[v])}from rfl]at this;simp only[List.length_set]at this;rw[h.sgn]at this;exact this)
   rcases Bu hy with⟨e,rfl⟩|⟨e,hy⟩
   ·rcases AP.1 hu with hu|hu
    ·rw[<-hmi]at hm h1;exact .inl (h.keep P.mem b' P _ hm h1 h3 u hu)
    ·exact .inr (AM.1 hu)
   ·exact absurd hmi e
  ·rcases Bu hy with⟨rfl,rfl⟩|⟨e,hy⟩
   ·--another process of an honest member:there is none
    exfalso;have hin:¬i<n:=fun hi=>hne (by have:=hmm.2.1 hi;omega)
    have:=hmm.2.2 (by omega);rw[show G.hb P.mem=true from hm]at this;cases this
   ·exact h.keep m b' P' y hm hj hy u hu
 ·intro m y hm hy u hu u' hu' hk;rcases Bu hy with⟨rfl,rfl⟩|⟨e,hy⟩
  ·have hin:i<n:=by
    rcases Nat.lt_or_ge i n with hi|hi
    ·exact hi
    ·have:=hmm.2.2 hi;rw[show G.hb P.mem=true from hm]at this;cases this
   have hmi:=hmm.2.1 hin;have hCR:∀u∈sl,u∈P.D:=fun u hu=>h.keep P.mem b P _ hm (by rw[hmi];exact h1) h3 u hu
   rcases AP.1 hu with hu|hu
   ·rcases AP.1 hu' with hu'|hu'
    ·exact h.uniq P.mem _ hm h3 u hu u' hu' hk
    ·rw[AM.1 hu']at hk;exact absurd hk (f2 u (hCR u hu))
   ·rcases AP.1 hu' with hu'|hu'
    ·rw[AM.1 hu]at hk;obtain⟨a1,a2,a3,a4,a5⟩:=hk;exact absurd ⟨a1.symm,a2.symm,a3.symm,a4.symm,a5.symm⟩ (f2 u' (hCR u' hu'))
    ·rw[AM.1 hu,AM.1 hu']
  ·exact h.uniq m y hm hy u hu u' hu' hk
 ·have e1:=JJ (fun y:Value×List Vt=>y.2.length) G.sg P.mem _ (vs,sl++[v]) h3;have e2:=JJ (fun p:Nat×PrS=>p.2.leaf) G.ps i _ (b,P.signd va L) h1;have:=h.cnt;show((G.sg.set P.mem (vs,sl++[v])).map fun y=>y.2.length).sum<=((G.ps.set i (b,P.signd va L)).map fun p=>p.2.leaf).sum+T;simp only[AI,List.length_singleton]at e1;have e3:(b,P.signd va L).2.leaf=(b,P).2.leaf+1:=rfl;omega
 ·intro m b' P' y hm hj hy;show R7 G.M G.par P' y.2;rcases get hj with⟨rfl,rfl,rfl⟩|⟨hne,hj⟩
  ·have hmi:P.mem=i:=hmm.2.1 (by
    have:=(AF.1 hy).1;rw[show(G.setP i b' (P.signd va L)).setS P.mem vs (sl++[v])={G with ps:=G.ps.set i (b',P.signd va L),sg:=G.sg.set P.mem (vs,sl++[v])}from rfl]at this;simp only[List.length_set]at this;rw[h.sgn]at this;exact this)
   rcases Bu hy with⟨e,rfl⟩|⟨e,hy⟩
   ·have hm':G.hb P.mem=true:=by rw[hmi];exact hm
    have old:=h.hn P.mem b' P _ hm' (by rw[hmi];exact h1) h3;have vP:∀u∈P.D,AW u:=PrS.D_valid fun x hx=>(h.held i b' P h1 x hx).1
    have vP':∀u∈(P.signd va L).D,AW u:=fun u hu=>by
     rcases(hDP u).1 hu with hu|hu
     ·exact vP u hu
     ·rw[hu];exact h4.1
    have up:∀u∈P.D,u∈(P.signd va L).D:=fun u hu=>(hDP u).2 (.inl hu)
    have mine:∀u∈P.D,u.signer=v.signer->u∈sl:=fun u hu hs=>by
     obtain⟨x,hx,rfl⟩:=PrS.mem_D.1 hu;obtain⟨_,m',y',_,_,g1,g2,g3,_⟩:=h.held i b' P h1 x hx;have g1:x.vote.signer=(m':Int):=g1;have:m'=P.mem:=by omega
     subst this;rw[h3]at g2;injection g2 with g2
     subst g2;exact g3
    refine⟨by show P.leaf+1=(sl++[v]).length;rw[old.leaf,AI];rfl,?_,fun u hu=>?_,fun u hu hp=>?_,fun u hu=>?_⟩
    ·refine List.nodup_append.2 ⟨old.nd,by simp,fun a ha b hb e=>?_⟩;rw[AM.1 hb]at e;have hv:v∈P.D:=h.keep P.mem b' P _ hm' (by rw[hmi];exact h1) h3 v (by rw[<-e];exact ha);exact f2 v hv ⟨rfl,rfl,rfl,rfl,rfl⟩
    ·rcases AP.1 hu with hu|hu
     ·exact old.key u hu
     ·rw[AM.1 hu];exact f3.key
    ·rcases AP.1 hu with hu|hu
     ·exact(old.acc u hu hp).grow (h.sgd _ _ h3 u hu).1 vP vP' up
     ·rw[AM.1 hu]at hp ⊢;exact(f3.acc hp).grow h4.1 vP vP' up
    ·rcases AP.1 hu with hu|hu
     ·refine⟨fun e=>?_,fun e e'=>?_⟩
      ·obtain⟨z,hz,r⟩:=(old.chain u hu).1 e;exact⟨z,BB _ hz,r⟩
      ·obtain⟨z,hz,r⟩:=(old.chain u hu).2 e e';exact⟨z,BB _ hz,r⟩
     ·rw[AM.1 hu];refine⟨fun e=>?_,fun e e'=>?_⟩
      ·obtain⟨z,hz,hs,r⟩:=f3.chain.1 e;exact⟨z,BB _ (mine z hz hs),r⟩
      ·obtain⟨z,hz,hs,r⟩:=f3.chain.2 e e';exact⟨z,BB _ (mine z hz hs),r⟩
   ·exact absurd hmi e
  ·rcases Bu hy with⟨rfl,rfl⟩|⟨e,hy⟩
   ·exfalso;have hin:¬i<n:=fun hi=>hne (by have:=hmm.2.1 hi;omega)
    have:=hmm.2.2 (by omega);rw[show G.hb P.mem=true from hm]at this;cases this
   ·exact h.hn m b' P' y hm hj hy
end
end
section
open Go.RowKit
attribute [local go_sem ↓] Go.wp_at_zero Go.wp_at_succ Aq Au Av Aw
attribute [local go_sem] BE BL BM BN AR AX AU
structure Stp where
 kind:Int
 process:Int
 procs:Int
 vote:Vt
abbrev Stp.cells(s:Stp):Array Value:=#[I s.kind,I s.process,I s.procs,I s.vote.kind,I s.vote.slot,I s.vote.round,I s.vote.choice,I s.vote.signer,I s.vote.support,
 B s.vote.parent.b0,B s.vote.parent.b1,B s.vote.parent.b2,B s.vote.parent.b3,B s.vote.parent.b4,B s.vote.parent.b5,B s.vote.parent.b6,B s.vote.parent.b7,
 B s.vote.value.b0,B s.vote.value.b1,B s.vote.value.b2,B s.vote.value.b3,B s.vote.value.b4,B s.vote.value.b5,B s.vote.value.b6,B s.vote.value.b7]
abbrev Stp.val(s:Stp):Value:=.agg s.cells
theorem Stp.row_vote{w:World}{g t:Nat}(s:Stp)(h:Blk w g t s.cells):AK w g 3 22=some s.vote.cells:=
 Blk.part h 3 s.vote.cells (fun j u hu=>by
  have hj:j<22:=(Aa.1 hu).1;rcases(by omega:j=0∨j=1∨j=2∨j=3∨j=4∨j=5∨j=6∨j=7∨j=8∨j=9∨j=10∨j=11∨j=12∨j=13∨j=14∨j=15∨j=16∨j=17∨j=18∨j=19∨j=20∨j=21)with rfl|rfl|rfl|rfl|rfl|rfl|rfl|rfl|rfl|rfl|rfl|rfl|rfl|rfl|rfl|rfl|rfl|rfl|rfl|rfl|rfl|rfl <;> exact hu)
theorem Ci{Bs g:Nat}{w:World}{G:GmS}(h:Ax Bs w g G):Calls prog 17 #[At g] w fun e w'=>e= .returned (.int .i64 (G.ps.length:Int))/\w'=w:=by
 obtain⟨A,c,hv⟩:=BD h.prow;obtain⟨n,hn⟩:=Ws G.ps.length;rw[hn]at hv ⊢;have y1:w.cell? ⟨g,11,none⟩=some (.slice A n c):=by rw[<-hv];exact h.blk.cell 11
 clear h hv hn;go_enter func17,ntmps17;go_wp2;go_ret;exact⟨rfl,rfl⟩
theorem Ax.pcells{Bs g i b:Nat}{w:World}{G:GmS}{P:PrS}(h:Ax Bs w g G)(hi:G.ps[i]? =some (b,P)):∃pb pc,G.pv= .slice (some ⟨pb,0,none⟩) G.ps.length pc/\w.cell? ⟨g,11,none⟩=some (.slice (some ⟨pb,0,none⟩) G.ps.length pc)/\w.cell? ⟨pb,i,none⟩=some (At b)/\i<G.ps.length:=by
 obtain⟨pb,pc,hpv,hpc,_,hpn⟩:=CT (i:=i) (u:=At b) h.prow (by rw[AV,hi];rfl);exact⟨pb,pc,hpv,by rw[<-hpv];exact h.blk.cell 11,hpc,hpn⟩
theorem Gl{Bs g i b:Nat}{w:World}{G:GmS}{P:PrS}(h:Ax Bs w g G)(hi:G.ps[i]? =some (b,P)):Calls prog 20 #[At g,.int .i64 (i:Int)] w fun e w'=>e= .returned (.int .i64 (P.mem:Int))/\w'=w:=by
 have HP:=AA (Ci h);obtain⟨pb,pc,_,y1,y2,hpn⟩:=h.pcells hi;have y3:w.cell? ⟨b,1,none⟩=some (.int .i64 (P.mem:Int)):=(h.prs _ _ hi).1.blk.cell 1;obtain⟨n,hn⟩:=Wr G.ps.length;rw[<-hn]at y1 hpn HP;have d1:decide ((i:Int)<0)=false:=by simp
 have d2:decide ((n:Int)<=(i:Int))=false:=by simp;omega
 clear h hi hn;go_enter func20,ntmps20;go_wp2_with (go_at_call 17;refine HP.out.mono ?_;rintro en w2 ⟨rfl,hw2⟩;replace hw2:=hw2.symm;subst hw2)
 go_ret;exact⟨rfl,rfl⟩
theorem QO{Bs g:Nat}{w:World}{G:GmS}(h:Ax Bs w g G)(p:Int)(hp:p<0∨(G.ps.length:Int)<=p):Calls prog 20 #[At g,.int .i64 p] w fun e w'=>e= .returned (.int .i64 (-1))/\w'=w:=by
 have HP:=AA (Ci h);obtain⟨n,hn⟩:=Wr G.ps.length;rw[<-hn]at hp HP;clear h hn;by_cases h0:p<0
 ·have d1:decide (p<0)=true:=by simpa using h0
  go_enter func20,ntmps20;go_wp2;go_ret;exact⟨rfl,rfl⟩
 ·have d1:decide (p<0)=false:=by simpa using h0
  have d2:decide ((n:Int)<=p)=true:=by simp;omega
  go_enter func20,ntmps20;go_wp2_with (go_at_call 17;refine HP.out.mono ?_;rintro en w2 ⟨rfl,hw2⟩;replace hw2:=hw2.symm;subst hw2)
  go_ret;exact⟨rfl,rfl⟩
def R8(P:PrS)(w:World)(e:Ending)(w':World):Prop:=
 ∃v:Value,e= .returned (.tuple #[v,.bool P.dd])/\Wx w w'/\(P.dd=true->w'.ownsRow w.heap.size 88 9 v P.dec.length (P.dec.flatMap chc))/\(P.dd=false->v= .slice none 0 0)
theorem FU{Bs g i b:Nat}{w:World}{G:GmS}{P:PrS}(h:Ax Bs w g G)(hi:G.ps[i]? =some (b,P))(hsm:P.dec.length<=1000000):Calls prog 18 #[At g,.int .i64 (i:Int)] w (R8 P w):=by
 have HM:=AA (Gl h hi);have HP:=(h.prs _ _ hi).1;obtain⟨pb,pc,_,y1,y2,hpn⟩:=h.pcells hi;obtain⟨A,c,hv,hr⟩:=Bg HP.dec;have y3:w.cell? ⟨b,13,none⟩=some (.bool P.dd):=HP.blk.cell 13;have y4:w.cell? ⟨b,12,none⟩=some (.slice A P.dec.length c):=by rw[<-hv];exact HP.blk.cell 12
 obtain⟨m,hm⟩:=Ws P.dec.length;obtain⟨n,hn⟩:=Wr G.ps.length;obtain⟨d,hd⟩:=Wr P.dd;rw[<-hn]at y1 hpn;rw[hm]at y4 hsm;rw[<-hd]at y3;have HR:=AA hr;have HMl:=AA hm;have HD:=AA hd;have d1:decide ((P.mem:Int)<0)=false:=by simp
 clear h hi hn hr hv HP hm hd;go_enter func18,ntmps18;go_upto_region 1 with fail
 cases d with
 |false=>
  go_wp2_with (go_at_call 20;refine HM.out.mono ?_;rintro en w2 ⟨rfl,hw2⟩;replace hw2:=hw2.symm;subst hw2)
  go_ret2;exact⟨.slice none 0 0,by rw[<-HD.out];rfl,AC _ _,fun h=>(by rw[<-HD.out]at h;cases h),fun _=>rfl⟩
 |true=>
  go_wp2_with (first
   |(go_at_call 20;refine HM.out.mono ?_;rintro en w2 ⟨rfl,hw2⟩;replace hw2:=hw2.symm;subst hw2)
   |(at_builtin;refine Ar rfl (.const (.slice none 0 0)) (.tmp 32) _ rfl w.heap.size 88 Ch.zero.val 9 16 underlying36 Ow rfl (by decide) (.slice none 0 0) 0 [] rfl ⟨by simp,.inl ⟨rfl,rfl⟩⟩ w.heap.size A m c (P.dec.flatMap chc) rfl (by rw[AY chc 9 P.dec (Ht P.dec),HMl.out]) HR.out (fun u hu=>by obtain⟨s,_,hs⟩:=List.mem_flatMap.1 hu;exact Rt s hs) (by omega) (by unfold maxLen;omega) (AB _) ?_;intro v3 w3 xC hg3 zO))
  go_ret2;rw[Nat.zero_add,List.nil_append]at xC;change w.grownBy w3 none at hg3;refine⟨v3,by rw[<-HD.out];rfl,(AC _ w).grown hg3 (AB _) (fun k hk=>by cases hk),fun _=>by rw[HMl.out];exact xC,fun h=>(by rw[<-HD.out]at h;cases h)⟩
end
section
open Go.RowKit Go.Shelf
attribute [local go_sem ↓] Go.wp_at_zero Go.wp_at_succ Aq Au Av Aw Ij
attribute [local go_sem] BE BL BM BN LG AR AX AU
def O8(M:Int)(p:Nm)(l:List Vt)(i:Nat)(L:List Oc):Prop:=L.map (·.slot)=(CK (xOf M) i).map (fun k:Nat=>(k:Int))/\∀o∈L,∃L',He M p o.slot.toNat l (o::L')
def Nx(M:Int)(p:Nm)(l:List Vt)(L:List Oc)(b:Bool):Prop:=
 (b=true/\O8 M p l 10 L/\0<L.length)∨(b=false/\((∃i,i<10/\(xOf M).testBit i=true/\He M p i l [])∨CK (xOf M) 10=[]))
def Mj(M:Int)(p:Nm)(l:List Vt)(w:World)(e:Ending)(w':World):Prop:=
 ∃(v:Value) (L:List Oc) (b:Bool),e= .returned (.tuple #[v,.bool b])/\w'.ownsRow w.heap.size 142 11 v L.length (L.flatMap occ)/\Wx w w'/\L.length<=10/\Nx M p l L b
def To(M:Int)(p:Nm)(l:List Vt)(w:World)(v iv:Value)(wr:World):Prop:=
 ∃(i:Nat) (L:List Oc),iv= .int .i64 (i:Int)/\i<=10/\L.length<=i/\O8 M p l i L/\wr.ownsRow w.heap.size 142 11 v L.length (L.flatMap occ)/\Wx w wr
theorem QP(M:Int)(p:Nm)(A:Option Addr)(n c:Nat)(l:List Vt)(w0:World)(hn:l.length=n)(hr:Rd w0 w0.heap.size A (l.flatMap vtc))(hsm:n<=1000000)(hl:∀v∈l,AW v):Calls prog 43 #[.int .i64 M,p.val,.slice A n c] w0 (Mj M p l w0):=by
 obtain⟨w,hw⟩:=Wr (w0.alloc (.cells p.cells 24));have hb0:Wx w0 w:=by rw[hw];exact(AC _ _).alloc (AB _) _
 have hBq:Blk w w0.heap.size 24 p.cells:=by rw[hw];exact Blk.new w0 _ _
 obtain⟨q,hq⟩:=Wr w0.heap.size;have HN:=AA hn;have HR:=AA ((hr.below hb0).more hb0.size);have HL:=AA hl;have HW:=AA hw;rw[<-hq]at hBq;have HBq:=AA hBq;have hqw:q<w.heap.size:=hBq.lt;have HQ:=AA hq;have yu:Hid (∀(i:Nat) (W:World),i<10->Calls prog 19 #[.int .i64 M,.int .i64 (i:Int)] W fun e w'=>e= .returned (.bool ((xOf M).testBit i))/\w'=W):=fun i W hi=>ET M i hi W
 have hDd:Hid (∀(s:Nat) (W:World),Wx w W->(xOf M).testBit s=true->Calls prog 79 #[.int .i64 M,p.val,.slice A n c,.int .i64 (s:Int)] W (Jc M p s l W)):=fun s W hW hs=>MP M p A n c l s W HN.out ((HR.out.below hW).more hW.size) hsm HL.out hs
 clear hn hr hl hw hBq hq;go_enter func43,ntmps43;go_upto_region 1 with fail
 simp only[<-HW.out,<-HQ.out];go_wp2
 go_loopw [8,11] (fun v iv wr=>To M p l w v iv wr) (fun _ iv _=>10-(intOf iv).toNat)
 case atStart=>exact⟨0,[],rfl,Nat.zero_le _,AB _,⟨by simp[CK],fun s hs=>(List.not_mem_nil hs).elim⟩,⟨by simp,.inl ⟨rfl,rfl⟩⟩,AC _ _⟩
 case round=>
  obtain⟨i,L,rfl,hin,hLi,hL,xB,hbw⟩:=hrel;have HLd:=AA hL;have xF:=AA xB;have y1:AK wr q 0 8=some p.cells:=(HBq.out.below hbw hqw).row 8 rfl;clear hL xB;by_cases hi:i<10
  ·have di:decide ((i:Int)<10)=true:=by simp;omega
   obtain⟨k,hk⟩:=Wr ((xOf M).testBit i);have HK:=AA hk;have HHi:Hid (∀W,Calls prog 19 #[.int .i64 M,.int .i64 (i:Int)] W fun e w'=>e= .returned (.bool k)/\w'=W):=fun W=>by rw[hk];exact yu.out i W hi
   clear hk;go_wp2_with fail
   refine(HHi.out _).mono ?_;rintro en w5' ⟨rfl,xi⟩;replace xi:=xi.symm;subst xi;cases k with
   |false=>
    go_wp2;go_roundw
    case rel=>exact⟨i+1,L,by go_num,by omega,by omega,⟨by rw[EG HK.out.symm];exact HLd.out.1,HLd.out.2⟩,xF.out,hbw⟩
    case measure=>simp[intOf];omega
   |true=>
    go_wp2_with fail
    refine(hDd.out i _ hbw HK.out.symm).mono ?_;rintro en w2 ⟨v2,L2,rfl,hG2,hl2,xG,hb2⟩;have xL:Wx w w2:=hbw.trans (hb2.mono hbw.size);have yD:Hid (w2.ownsRow w.heap.size 142 11 u8 L.length (L.flatMap occ)):=BP xF.out hb2 (AB _);rcases Fm xG with⟨rfl,h0,_⟩|⟨g,cap,T,rfl,hg,xZ,zm⟩
    ·have HG:Hid (He M p i l []):=by unfold Hid;rw[AQ h0]at hG2;exact hG2
     clear hG2 xG y1 hl2 h0;go_wp2;go_ret2;exact⟨_,[],false,rfl,⟨by simp,.inl ⟨rfl,rfl⟩⟩,hb0.trans (xL.mono hb0.size),by simp,.inr ⟨rfl,.inl ⟨i,hi,HK.out.symm,HG.out⟩⟩⟩
    ·rcases L2 with _|⟨x,L2⟩
     ·have HG:=AA hG2;clear hG2 xG y1 hl2 xZ;simp only[List.length_nil];go_wp2;go_ret2;exact⟨_,[],false,rfl,⟨by simp,.inl ⟨rfl,rfl⟩⟩,hb0.trans (xL.mono hb0.size),by simp,.inr ⟨rfl,.inl ⟨i,hi,HK.out.symm,HG.out⟩⟩⟩
     ·have x3:AK w2 g 0 11=some x.cells:=by
       have h:=Bv.oc (T:=T) (w0:=w2) (i:=0) ⟨xZ,Al w2 g⟩ (show(x::L2)[0]? =some x from rfl);simpa using h
      have HX:Hid (x.slot=(i:Int)/\∃L',He M p x.slot.toNat l (x::L')):=by
       have hs:x.slot=(i:Int):=by obtain⟨O2,_,h2,_⟩:=hG2;exact(h2 x Am).1
       exact⟨hs,L2,by rw[hs];exact hG2⟩
      obtain⟨m,hm⟩:=Wr ((x::L2).length);have hm0:0<m:=by rw[hm];simp
      rw[<-hm]at zm ⊢;have dm:((m:Int)==0)=false:=by simp;omega
      clear hG2 xG hl2 xZ hm y1;go_wp2_with ((first
       |(refine BQ rfl 103 142 (.tmp 29) rfl x.cells rfl underlying103 (by kernel_rfl) (by decide) (by decide) ?_)
       |(at_builtin;refine Ar rfl (.tmp 26) (.tmp 30) _ rfl w.heap.size 142 (.agg Oc.zero.cells) 11 32 underlying103 Pe rfl (by decide) u8 L.length (L.flatMap occ) rfl ?r0 (w2.heap.size+1) (some ⟨w2.heap.size,0,none⟩) 1 1 (occ x) rfl ?r1 ?r2 ?r3 ?r4 ?r5 ?r6 ?_)))
      case r0=>exact yD.out.alloc _
      case r1=>rfl
      case r2=>exact Rd.mk (by omega) (fun j u hu=>by rw[Nat.zero_add,(Blk.new w2 _ _).cell];simpa using hu)
      case r3=>exact fun u hu=>L3 x hu
      case r4=>omega
      case r5=>unfold maxLen;omega
      case r6=>have:=xL.size;simp;omega
      intro v7 w7 xE hg7 xo;have yL:Wx w w7:=BO (xL.alloc xL.size _) (yD.out.alloc _) hg7;have xO:=AA xE;clear xE hg7 xo x3 yD;go_wp2;go_roundw
      case rel=>
       refine⟨i+1,L++[x],by go_num,by omega,by rw[AI];simp;omega,⟨?_,?_⟩,?_,yL⟩
       ·rw[GB HK.out.symm,Ad,Ad,HLd.out.1];simp[HX.out.1]
       ·intro t ht;rcases AP.1 ht with ht|ht
        ·exact HLd.out.2 t ht
        ·rw[AM.1 ht];exact HX.out.2
       ·have h:=xO.out;rw[AI,Af];simpa using h
      case measure=>simp[intOf];omega
  ·have di:decide ((i:Int)<10)=false:=by simp;omega
   have hBR:i=10:=by omega
   have HI:=AA hBR;obtain⟨A1,c1,rfl,hc1⟩:∃A1 c1,u8= .slice A1 L.length c1/\True:=by
    rcases xF.out.2 with⟨rfl,h0⟩|⟨g,cap,cur,rfl,_⟩
    ·exact⟨none,0,by rw[h0],trivial⟩
    ·exact⟨_,cap,rfl,trivial⟩
   clear hBR hc1;obtain⟨m,hm⟩:=Wr L.length;rw[<-hm];have HM:=AA hm;clear hm;go_wp2;go_ret2;refine⟨_,L,_,rfl,by have h:=BS xF.out hb0.size;rw[<-HM.out]at h ⊢;exact h,hb0.trans (hbw.mono hb0.size),by omega,?_⟩;unfold Nx;rw[<-HM.out];by_cases hz:0<m
   ·exact .inl ⟨by simpa using hz,by have h:=HLd.out;rw[HI.out]at h;exact h,hz⟩
   ·refine .inr ⟨by simpa using hz,.inr ?_⟩;have h:=HLd.out.1;rw[HI.out]at h;have h2:=congrArg List.length h;rw[Ab,Ab,<-HM.out]at h2;exact AQ (by omega)
end
section
open Go.RowKit
def TyB(w:World)(o:Option Nat)(T:TypeId):Prop:=∀k,o=some k->∃cs,Blk w k T cs
theorem TyB.off{w:World}{k:Nat}{t T:TypeId}(h:TyB w (some k) T)(ht:t≠T):Off w k t:=by
 obtain⟨cs,hB⟩:=h k rfl;exact .blk hB (fun e=>ht e.symm)
theorem Cl{w:World}{base e size n:Nat}{v:Value}{xs:List Value}(h:w.ownsRow base e size v n xs):TyB w v.ownBlock e:=fun k hk=>by
 rcases h.2 with⟨rfl,_⟩|⟨g,cap,cur,rfl,_,hh,_⟩
 ·simp[Value.ownBlock]at hk
 ·have:g=k:=by simpa[Value.ownBlock]using hk
  subst this;exact⟨cur,hh⟩
theorem O9{w:World}{g T:Nat}{cs:Array Value}(h:Blk w g T cs):TyB w (some g) T:=fun k hk=>by
 injection hk with hk
 subst hk;exact⟨cs,h⟩
section
variable {w w':World}{o:Option Nat}{T:TypeId}
theorem Bx{base e size n:Nat}{v:Value}{xs:List Value}(h:w.ownsRow base e size v n xs)(hg:w.grownBy w' o)(ho:TyB w o T)(he:e≠T):w'.ownsRow base e size v n xs:=by
 cases o with
 |none=>exact Ba h hg (fun k hk=>by cases hk)
 |some k=>exact BK h hg (ho.off he)
theorem Blk.offB{g t:Nat}{cs:Array Value}(h:Blk w g t cs)(hg:w.grownBy w' o)(ho:TyB w o T)(ht:t≠T):Blk w' g t cs:=by
 cases o with
 |none=>exact h.kept hg (by simp)
 |some k=>exact h.off hg (ho.off ht)
theorem Bi.offB{s:Nm}{h m:Nat}(hk:Bi s h m w)(hg:w.grownBy w' o)(ho:TyB w o T)(h1:24≠T)(h2:152≠T):Bi s h m w':=by
 cases o with
 |none=>
  obtain⟨a1,a2,tl,a3,a4⟩:=hk;exact⟨a1.kept hg (by simp),a2,tl,a3.kept hg (by simp),fun a b hab=>by
   obtain⟨l,n,g,e1,e2,e3⟩:=a4 a b hab;exact⟨l,n,g,e1,e2,e3.kept hg (by simp)⟩⟩
 |some k=>
  refine hk.off hg (fun e=>?_) (ho.off h1) (ho.off h2);obtain⟨_,_,tl,a3,_⟩:=hk;obtain⟨cs,hB⟩:=ho k rfl;exact(Off.map a3:Off w m T) _ (e▸hB)
theorem C7.offB{Bs b:Nat}{P:PrS}(h:C7 Bs w b P)(hg:w.grownBy w' o)(ho:TyB w o T)(h0:97≠T)(h1:62≠T)(h2:5≠T)(h3:88≠T):C7 Bs w' b P:=
 ⟨h.blk.offB hg ho h0,Bx h.row hg ho h1,fun s hs=>⟨(h.sgs s hs).1,Bx (h.sgs s hs).2.1 hg ho h2,(h.sgs s hs).2.2⟩,Bx h.dec hg ho h3⟩
end
def Ny(T:TypeId):Prop:=24≠T/\152≠T/\97≠T/\62≠T/\5≠T/\88≠T/\46≠T
section
variable {Bs g:Nat}{w w1:World}{G:GmS}{o:Option Nat}{T:TypeId}
theorem Ax.farK(h:Ax Bs w g G)(hg:w.grownBy w1 o)(ho:TyB w o T)(hT:Ny T):∀(i:Nat) (k:KyS),G.ks[i]? =some k->Bi k.seed k.h k.m w1/\Bs<=k.m:=fun i k hk=>⟨(h.keys i k hk).1.offB hg ho hT.1 hT.2.1,(h.keys i k hk).2⟩
theorem Ax.farP(h:Ax Bs w g G)(hg:w.grownBy w1 o)(ho:TyB w o T)(hT:Ny T):∀(i:Nat) (p:Nat×PrS),G.ps[i]? =some p->C7 Bs w1 p.1 p.2/\Bs<=p.1:=fun i p hp=>⟨(h.prs i p hp).1.offB hg ho hT.2.2.1 hT.2.2.2.1 hT.2.2.2.2.1 hT.2.2.2.2.2.1,(h.prs i p hp).2⟩
theorem Ax.farS(h:Ax Bs w g G)(hg:w.grownBy w1 o)(ho:TyB w o T)(hT:Ny T):∀(i:Nat) (x:Value×List Vt),G.sg[i]? =some x->w1.ownsRow Bs 46 22 x.1 x.2.length (x.2.flatMap vtc):=fun i x hx=>Bx (h.sgs i x hx) hg ho hT.2.2.2.2.2.2
theorem Dw{α:Type}{l:List α}{a b:α}{i:Nat}(h:(l++[a])[i]? =some b):l[i]? =some b∨(i=l.length/\b=a):=by
 rw[List.getElem?_append]at h;by_cases hi:i<l.length
 ·rw[if_pos hi]at h;exact .inl h
 ·rw[if_neg hi]at h;have:i-l.length=0:=by
   have:=(AF.1 h).1;simp at this;omega
  rw[this]at h;simp at h;exact .inr ⟨by omega,h.symm⟩
theorem Ax.addK{kv':Value}{k:KyS}(h:Ax Bs w g G)(hg:w.grownBy w1 G.kv.ownBlock)(xB:w1.ownsRow Bs 112 1 kv' (G.ks.length+1) ((G.ks.map fun k=>At k.h)++[At k.h]))(hk:Bi k.seed k.h k.m w1/\Bs<=k.m)(hn:∀k'∈G.ks,k'.m≠k.m):Ax Bs (w1.setCell ⟨g,10,none⟩ kv') g {G with kv:=kv',ks:=G.ks++[k]}/\w1.grownBy (w1.setCell ⟨g,10,none⟩ kv') (some g):=by
 have hT:=Cl h.krow;have fT:Ny 112:=⟨by decide,by decide,by decide,by decide,by decide,by decide,by decide⟩;have hB:=h.blk.offB hg hT (by decide);have hg2:w1.grownBy (w1.setCell ⟨g,10,none⟩ kv') (some g):=Bl (p:=⟨g,10,none⟩) (Al w1 g) rfl _;have hT2:=O9 hB;have fG:Ny 93:=⟨by decide,by decide,by decide,by decide,by decide,by decide,by decide⟩;have a1:=h.farK hg hT fT;have a2:=h.farP hg hT fT;have a3:=h.farS hg hT fT;refine⟨⟨hB.put 10 kv',?_,Bx (Bx h.prow hg hT (by decide)) hg2 hT2 (by decide),Bx (Bx h.srow hg hT (by decide)) hg2 hT2 (by decide),fun i k' hk'=>?_,fun i p hp=>⟨(a2 i p hp).1.offB hg2 hT2 fG.2.2.1 fG.2.2.2.1 fG.2.2.2.2.1 fG.2.2.2.2.2.1,(a2 i p hp).2⟩,fun i x hx=>Bx (a3 i x hx) hg2 hT2 fG.2.2.2.2.2.2,fun i j k1 k2 h1 h2 he=>?_,h.pn,h.sn⟩,hg2⟩
 ·have:=Bx xB hg2 hT2 (by decide);show World.ownsRow _ Bs _ 1 kv' (G.ks++[k]).length ((G.ks++[k]).map fun k=>At k.h);rw[AI,Ad];exact this
 ·rcases Dw hk' with hk'|⟨_,rfl⟩
  ·exact⟨(a1 i k' hk').1.offB hg2 hT2 fG.1 fG.2.1,(a1 i k' hk').2⟩
  ·exact⟨hk.1.offB hg2 hT2 fG.1 fG.2.1,hk.2⟩
 ·rcases Dw h1 with g1|⟨e1,e1'⟩
  ·rcases Dw h2 with g2|⟨e2,e2'⟩
   ·exact h.kn i j k1 k2 g1 g2 he
   ·rw[e2']at he;exact absurd he (hn k1 (AN g1))
  ·rcases Dw h2 with g2|⟨e2,e2'⟩
   ·rw[e1']at he;exact absurd he.symm (hn k2 (AN g2))
   ·omega
theorem Ax.addP{pv':Value}{b:Nat}{P:PrS}(h:Ax Bs w g G)(hg:w.grownBy w1 G.pv.ownBlock)(xB:w1.ownsRow Bs 98 1 pv' (G.ps.length+1) ((G.ps.map fun p=>At p.1)++[At b]))(hP:C7 Bs w1 b P/\Bs<=b)(hn:∀p∈G.ps,p.1≠b):Ax Bs (w1.setCell ⟨g,11,none⟩ pv') g {G with pv:=pv',ps:=G.ps++[(b,P)]}/\w1.grownBy (w1.setCell ⟨g,11,none⟩ pv') (some g):=by
 have hT:=Cl h.prow;have fT:Ny 98:=⟨by decide,by decide,by decide,by decide,by decide,by decide,by decide⟩;have hB:=h.blk.offB hg hT (by decide);have hg2:w1.grownBy (w1.setCell ⟨g,11,none⟩ pv') (some g):=Bl (p:=⟨g,11,none⟩) (Al w1 g) rfl _;have hT2:=O9 hB;have fG:Ny 93:=⟨by decide,by decide,by decide,by decide,by decide,by decide,by decide⟩;have a1:=h.farK hg hT fT;have a2:=h.farP hg hT fT;have a3:=h.farS hg hT fT;refine⟨⟨hB.put 11 pv',Bx (Bx h.krow hg hT (by decide)) hg2 hT2 (by decide),?_,Bx (Bx h.srow hg hT (by decide)) hg2 hT2 (by decide),fun i k hk=>⟨(a1 i k hk).1.offB hg2 hT2 fG.1 fG.2.1,(a1 i k hk).2⟩,fun i p hp=>?_,fun i x hx=>Bx (a3 i x hx) hg2 hT2 fG.2.2.2.2.2.2,h.kn,fun i j p1 p2 h1 h2 he=>?_,h.sn⟩,hg2⟩
 ·have:=Bx xB hg2 hT2 (by decide);show World.ownsRow _ Bs _ 1 pv' (G.ps++[(b,P)]).length ((G.ps++[(b,P)]).map fun p=>At p.1);rw[AI,Ad];exact this
 ·rcases Dw hp with hp|⟨_,rfl⟩
  ·exact⟨(a2 i p hp).1.offB hg2 hT2 fG.2.2.1 fG.2.2.2.1 fG.2.2.2.2.1 fG.2.2.2.2.2.1,(a2 i p hp).2⟩
  ·exact⟨hP.1.offB hg2 hT2 fG.2.2.1 fG.2.2.2.1 fG.2.2.2.2.1 fG.2.2.2.2.2.1,hP.2⟩
 ·rcases Dw h1 with g1|⟨e1,e1'⟩
  ·rcases Dw h2 with g2|⟨e2,e2'⟩
   ·exact h.pn i j p1 p2 g1 g2 he
   ·rw[e2']at he;exact absurd he (hn p1 (AN g1))
  ·rcases Dw h2 with g2|⟨e2,e2'⟩
   ·rw[e1']at he;exact absurd he.symm (hn p2 (AN g2))
   ·omega
end
end
section
open Go.RowKit
attribute [local go_sem ↓] Go.wp_at_zero Go.wp_at_succ Aq Au Av Aw
attribute [local go_sem] BE BL BM BN AR AX AU
def inM(M:Int)(i:Nat):Bool:=M/((2^i:Nat):Int)%2==1
def CY(M:Int)(n:Nat):List Nat:=(List.range n).filter fun i=>inM M i
theorem R9{M:Int}{n:Nat}(h:inM M n=true):CY M (n+1)=CY M n++[n]:=by simp[CY,List.range_succ,List.filter_append,h]
theorem QQ{M:Int}{n:Nat}(h:inM M n=false):CY M (n+1)=CY M n:=by simp[CY,List.range_succ,List.filter_append,h]
theorem J1(M:Int)(n:Nat):(CY M n).length<=n:=by
 have:=List.length_filter_le (fun i=>inM M i) (List.range n);rw[List.length_range]at this;exact this
theorem H8{M:Int}{n i:Nat}:i∈CY M n↔i<n/\inM M i=true:=by simp[CY]
def GmS.bk(G:GmS)(i:Nat):Nat:=(G.ps.map (·.1)).getD i 0
theorem GmS.bk_of{G:GmS}{i b:Nat}{P:PrS}(h:G.ps[i]? =some (b,P)):G.bk i=b:=by
 unfold GmS.bk;rw[List.getD_eq_getElem?_getD,AV,h];rfl
theorem SA:(prog.info? 98).map (fun i=>(i.zero,i.size,i.bytes))=some (some (.pointer none),1,8):=by kernel_rfl
def Tp(G:GmS)(M:Int)(w:World)(e:Ending)(w':World):Prop:=
 ∃v:Value,e= .returned v/\w'.ownsRow w.heap.size 98 1 v (CY M G.ps.length).length ((CY M G.ps.length).map fun i=>At (G.bk i))/\Wx w w'
theorem Nz{Bs g:Nat}{w:World}{G:GmS}(h:Ax Bs w g G)(M:Int)(hn:G.ps.length<=20):Calls prog 41 #[At g,.int .i64 M] w (Tp G M w):=by
 obtain⟨A,c,hv⟩:=BD h.prow;obtain⟨n,hnn⟩:=Wr G.ps.length;rw[<-hnn]at hv hn;have y1:w.cell? ⟨g,11,none⟩=some (.slice A n c):=by rw[<-hv];exact h.blk.cell 11
 have HC:Hid (∀i,i<n->∃pb,A=some ⟨pb,0,none⟩/\pb<w.heap.size/\w.cell? ⟨pb,i,none⟩=some (At (G.bk i))):=fun i hi=>by
  obtain⟨⟨b,P⟩,hp⟩:∃x,G.ps[i]? =some x:=⟨_,AE (by omega)⟩;obtain⟨pb,pc,e,_,x2,_⟩:=h.pcells hp;rw[hv]at e;injection e with e _ _
  have hB:=CT (i:=i) (u:=At b) h.prow (by rw[AV,hp];rfl);obtain⟨pb',_,e',_,⟨cs,hB⟩,_⟩:=hB;rw[hv]at e';injection e' with e' _ _
  rw[e]at e';injection e' with e'
  injection e' with e'
  subst e';exact⟨pb,e,hB.lt,by rw[GmS.bk_of hp];exact x2⟩
 have HNn:=AA hnn;clear h hv hnn;go_enter func41,ntmps41;go_wp2
 go_loopw [5,13] (fun v iv wr=>∃i:Nat,iv= .int .i64 (i:Int)/\i<=n/\wr.ownsRow w.heap.size 98 1 v (CY M i).length ((CY M i).map fun i=>At (G.bk i))/\Wx w wr) (fun _ iv _=>n-(intOf iv).toNat)
 case atStart=>exact⟨0,rfl,Nat.zero_le _,⟨by simp[CY],.inl ⟨rfl,rfl⟩⟩,AC _ _⟩
 case round=>
  obtain⟨i,rfl,hin,xB,hb⟩:=hrel;have xF:=AA xB;clear xB;by_cases hi:i<n
  ·have di:=Wu (show i<n by omega)
   obtain⟨pb,rfl,hpb,hc⟩:=HC.out i hi;have x1:wr.cell? ⟨pb,i,none⟩=some (At (G.bk i)):=by rw[hb.cell (p:=⟨pb,i,none⟩) hpb];exact hc
   have hl:=J1 M i;obtain⟨d,hd⟩:=Wr (inM M i);have hBE:(bits .and .i64 (M/2^i) 1==1)=d:=by
    have e:(2:Int)^i=((2^i:Nat):Int):=by simp
    rw[e,Sl,hd];rfl
   have HD:=AA hd;clear hd hc;cases d with
   |true=>
    go_wp2_with ((at_builtin;refine Ar rfl (.tmp 23) (.tmp 25) _ rfl w.heap.size 98 (.pointer none) 1 8 underlying91 SA rfl (by decide) u5 (CY M i).length ((CY M i).map fun i=>At (G.bk i)) rfl ?r0 (wr.heap.size+1) (some ⟨wr.heap.size,0,none⟩) 1 1 [At (G.bk i)] rfl rfl ?r1 ?r2 ?r3 ?r4 ?r5 ?_))
    case r0=>exact xF.out.alloc _
    case r1=>exact Rd.mk (by omega) (fun j u hu=>by rw[Nat.zero_add,(Blk.new wr _ _).cell];simpa using hu)
    case r2=>intro u hu;simp at hu;subst hu;rfl
    case r3=>omega
    case r4=>unfold maxLen;omega
    case r5=>have:=hb.size;simp;omega
    intro v7 w7 xE hg7 xo;have hb7:=BO (hb.alloc hb.size _) (xF.out.alloc _) hg7;have xO:Hid (w7.ownsRow w.heap.size 98 1 v7 (CY M (i+1)).length ((CY M (i+1)).map fun i=>At (G.bk i))):=by
     unfold Hid;rw[R9 HD.out.symm,AI,Ad];exact xE
    clear xE hg7 xo;go_wp2;go_roundw
    case rel=>exact⟨i+1,by go_num,by omega,xO.out,hb7⟩
    case measure=>simp[intOf];omega
   |false=>
    have xO:Hid (wr.ownsRow w.heap.size 98 1 u5 (CY M (i+1)).length ((CY M (i+1)).map fun i=>At (G.bk i))):=by
     unfold Hid;rw[QQ HD.out.symm];exact xF.out
    go_wp2;go_roundw
    case rel=>exact⟨i+1,by go_num,by omega,xO.out,hb⟩
    case measure=>simp[intOf];omega
  ·have di:=Wv (show n<=i by omega)
   have hAj:i=G.ps.length:=by rw[<-HNn.out];omega
   have xO:Hid (wr.ownsRow w.heap.size 98 1 u5 (CY M G.ps.length).length ((CY M G.ps.length).map fun i=>At (G.bk i))):=by
    unfold Hid;rw[<-hAj];exact xF.out
   clear hAj;go_wp2;go_ret;exact⟨_,rfl,xO.out,hb⟩
end
end Go.Proofs.YtadllffeoibelaaGreat
