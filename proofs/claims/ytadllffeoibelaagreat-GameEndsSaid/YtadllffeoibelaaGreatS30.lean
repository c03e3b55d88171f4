/-
  Parts of the proof. No condition.
-/
import Derived.Test.YtadllffeoibelaaGreatS28
import Derived.Test.YtadllffeoibelaaGreatS29
open Go.Proofs.Tryz
namespace Go.Proofs.YtadllffeoibelaaGreat
set_option maxRecDepth 100000
set_option maxHeartbeats 32000000
set_option linter.all false
section

def Ty(M:Int)(par:Nm)(P:PrS):Prop:=P.dec.length<=10/\(P.dd=true->∃(l:List Vt) (L:List Oc),(∀v∈l,v∈P.D)/\Nx M par l L true/\P.dec=L.map FR)
theorem Ty.more{M:Int}{par:Nm}{P P':PrS}(h:Ty M par P)(h1:P'.dec=P.dec)(h2:P'.dd=P.dd)(h3:∀v∈P.D,v∈P'.D):Ty M par P':=by
 refine⟨by rw[h1];exact h.1,fun hd=>?_⟩;obtain⟨l,L,a,b,c⟩:=h.2 (by rw[<-h2];exact hd);exact⟨l,L,fun v hv=>h3 v (a v hv),b,by rw[h1];exact c⟩
structure PlI (n:Nat)(T0 L0:Int)(s:Nm)(T:Nat)(G:GmS):Prop where
 inv:Jy n T G
 M:G.M=((2^n:Nat):Int)-1
 hon:G.hon=Tt G.M T0 L0
 par:G.par=Mm s
 sd:G.ks.map (·.seed)=(List.range n).map (K4 s)
 dec:∀(i b:Nat) (P:PrS),G.ps[i]? =some (b,P)->Ty G.M G.par P
theorem SJ(y:BitVec 64):xOf (IntKind.i64.wrap (y.toNat:Int))=y.toNat%2^10:=by
 unfold xOf;rw[IntKind.wrap_i64];have:=y.isLt;omega
theorem J4(y:BitVec 64)(i:Nat)(hi:i<10):(xOf (IntKind.i64.wrap (y.toNat:Int))).testBit i=y.getLsbD i:=by
 rw[SJ,Nat.testBit_mod_two_pow,decide_eq_true hi,Bool.true_and];rfl
theorem PI(a b:Int)(i:Nat)(hi:i<10):(xOf (bits .and .i64 a b)).testBit i=((xOf a).testBit i&&(xOf b).testBit i):=by
 rw[show bits .and .i64 a b=IntKind.i64.wrap ((BitVec.ofInt 64 a&&& BitVec.ofInt 64 b).toNat:Int)from rfl,J4 _ i hi,BitVec.getLsbD_and,D4 a i hi,D4 b i hi]
theorem VE(a b:Int)(i:Nat)(hi:i<10):(xOf (bits .or .i64 a b)).testBit i=((xOf a).testBit i||(xOf b).testBit i):=by
 rw[show bits .or .i64 a b=IntKind.i64.wrap ((BitVec.ofInt 64 a|||BitVec.ofInt 64 b).toNat:Int)from rfl,J4 _ i hi,BitVec.getLsbD_or,D4 a i hi,D4 b i hi]
theorem J5(a b:Int)(i:Nat)(hi:i<10):(xOf (bits .andNot .i64 a b)).testBit i=((xOf a).testBit i&&!(xOf b).testBit i):=by
 rw[show bits .andNot .i64 a b=IntKind.i64.wrap ((BitVec.ofInt 64 a&&& ~~~BitVec.ofInt 64 b).toNat:Int)from rfl,J4 _ i hi,BitVec.getLsbD_and,BitVec.getLsbD_not,D4 a i hi,D4 b i hi,decide_eq_true (show i<64 by omega),Bool.true_and]
theorem PJ{n:Nat}(hn:n<=7)(i:Nat):(xOf (((2^n:Nat):Int)-1)).testBit i=decide (i<n):=by
 have e:xOf (((2^n:Nat):Int)-1)=2^n-1:=by
  have h1:2^n<=2^7:=Nat.pow_le_pow_right (by omega) hn;have h2:0<2^n:=Nat.two_pow_pos n;unfold xOf;omega
 rw[e,Nat.testBit_two_pow_sub_one]
theorem Tz{s n:Nat}(hn:n<=10)(h:∀i,n<=i->i<10->s.testBit i=false):CK s 10=CK s n:=by
 have key:∀d,n+d<=10->CK s (n+d)=CK s n:=by
  intro d
  induction d with
  |zero=>intro _;rfl
  |succ d ih=>
   intro hd;rw[show n+(d+1)=(n+d)+1 from rfl,EG (h (n+d) (by omega) (by omega)),ih (by omega)]
 have:=key (10-n) (by omega);rwa[show n+(10-n)=10 by omega]at this
theorem Gp{l:List VS}{v:Vt}:v∈(Cc l).map (·.1)↔v∈l.map (·.1):=Cf l v
theorem PrS.D_sub{P P':PrS}{X:List VS}(h:P'.L.map Sg.vs=Cc (P.L.map Sg.vs++X)):∀v∈P.D,v∈P'.D:=fun v hv=>by
 rw[Cf]at hv ⊢;rw[h,Gp,Ad];exact BB _ hv
section
variable {n T:Nat}{T0 L0:Int}{s:Nm}{G G':GmS}
theorem PlI.good(h:PlI n T0 L0 s T G)(hT:T<=100):GoodG G:=by
 refine⟨by have:=h.inv.psn;have:=h.inv.n1;omega,fun i b P hi=>⟨by have:=h.inv.len hi;omega,fun x hx=>(h.inv.held i b P hi x hx).1⟩⟩
theorem PlI.new(h:N2 n T0 L0 s G)(hn:1<=n/\n<=7):PlI n T0 L0 s 0 G:=by
 obtain⟨ms,hms,hps⟩:=h.ps;have hM:=h.M;have hMb:∀i,(xOf G.M).testBit i=decide (i<n):=fun i=>by rw[hM];exact PJ hn.2 i
 have hid:CK (xOf (bits .and .i64 G.M T0)) 10=CK (xOf (bits .and .i64 G.M T0)) n:=Tz (by omega) (fun i h1 h2=>by
  rw[PI _ _ i h2,hMb,decide_eq_false (by omega),Bool.false_and])
 have hgl:G.ps.length=ms.length:=by
  have:=congrArg List.length hps;rwa[Ab,Ab,GS]at this
 have hml:ms.length=n+(CK (xOf (bits .and .i64 G.M T0)) n).length:=by rw[hms,hid,AI,List.length_range]
 have hp:∀(i b:Nat) (P:PrS),G.ps[i]? =some (b,P)->∃(m:Nat) (y:Nm),P=FB (m,y)/\ms[i]? =some m:=fun i b P hi=>by
  have h1:=congrArg (fun l=>l[i]?) hps;simp only[AV,hi,Option.map_some]at h1;obtain⟨⟨m,y⟩,h2,h3⟩:=Option.map_eq_some_iff.1 h1.symm;exact⟨m,y,h3.symm,(PB h2).1⟩
 have hm:∀i m,ms[i]? =some m->m<n/\(i<n->m=i)/\(n<=i->G.hb m=false):=fun i m hi=>by
  rw[hms,List.getElem?_append,List.length_range]at hi;by_cases hin:i<n
  ·rw[if_pos hin,List.getElem?_range hin]at hi;injection hi with hi
   exact⟨by omega,fun _=>hi.symm,fun _=>by omega⟩
  ·rw[if_neg hin,hid]at hi;obtain⟨h1,h2⟩:=C9.1 (AN hi);rw[PI _ _ m (by omega),Bool.and_eq_true]at h2;refine⟨h1,fun h=>absurd h hin,fun _=>?_⟩;show(xOf G.hon).testBit m=false;rw[h.hon,J5 _ _ m (by omega),VE _ _ m (by omega),h2.2,Bool.true_or];simp
 have hsg:∀(m:Nat) (y:Value×List Vt),G.sg[m]? =some y->y.2=[]:=fun m y hm=>by
  rw[h.sg]at hm;rw[List.getElem?_replicate]at hm;split at hm
  ·injection hm with hm
   rw[<-hm]
  ·cases hm
 refine⟨⟨⟨hn.1,by omega⟩,?_,?_,?_,?_,?_,?_,?_,?_,?_,?_,?_,?_⟩,hM,h.hon,h.par,h.ks,?_⟩
 ·have:=congrArg List.length h.ks;rwa[Ab,Ab,List.length_range]at this
 ·rw[h.sg,List.length_replicate]
 ·have:=GC (xOf (bits .and .i64 G.M T0)) n;omega
 ·intro i b P hi;obtain⟨m,y,rfl,h2⟩:=hp i b P hi;exact hm i m h2
 ·intro i b P hi;obtain⟨m,y,rfl,h2⟩:=hp i b P hi;exact⟨by show 0<=1024;omega,by show(0:Int)<=0;omega,by show(0:Int)<=((0:Nat):Int);omega⟩
 ·intro i b P hi;obtain⟨m,y,rfl,h2⟩:=hp i b P hi;exact F6 rfl
 ·intro i b P hi x hx;obtain⟨m,y,rfl,h2⟩:=hp i b P hi;cases hx
 ·intro m y hy v hv;rw[hsg m y hy]at hv;cases hv
 ·intro m b P y _ _ hy v hv;rw[hsg m y hy]at hv;cases hv
 ·intro m y _ hy u hu;rw[hsg m y hy]at hu;cases hu
 ·rw[h.sg];simp
 ·intro m b P y _ hi hy;rw[hsg m y hy];obtain⟨m',z,rfl,h2⟩:=hp m b P hi;exact⟨rfl,List.nodup_nil,fun v hv=>(by cases hv),fun v hv=>(by cases hv),fun v hv=>(by cases hv)⟩
 ·intro i b P hi;obtain⟨m,y,rfl,h2⟩:=hp i b P hi;exact⟨by show 0<=10;omega,fun h=>by cases h⟩
theorem PlI.dcd(h:PlI n T0 L0 s T G)(hd:CQ G.ps.length G G'):PlI n T0 L0 s T G':=by
 obtain⟨ps',rfl,hl,hx⟩:=hd;have hx':∀(i b:Nat) (P':PrS),ps'[i]? =some (b,P')->∃P,G.ps[i]? =some (b,P)/\WL G P P':=fun i b P' hi=>by
  obtain⟨P,h1,h2⟩:=hx i b P' hi;rw[if_pos (AF.1 h1).1]at h2;exact⟨P,h1,h2⟩
 refine⟨h.inv.share (AB _) rfl rfl rfl rfl rfl hl (fun i b P' hi=>?_),h.M,h.hon,h.par,h.sd,fun i b P' hi=>?_⟩
 ·obtain⟨P,h1,v,d,ok,rfl,_⟩:=hx' i b P' hi;have hf:=h.inv.leaf i b P h1;exact⟨b,P,h1,rfl,rfl,hf.2.1,hf.2.2,h.inv.can i b P h1,fun v hv=>hv,h.inv.held i b P h1⟩
 ·obtain⟨P,h1,v,d,ok,he,⟨_,rfl⟩|⟨_,L,hL,hD,hd⟩⟩:=hx' i b P' hi
  ·exact h.dec i b P' h1
  ·subst he;refine⟨by show d.length<=10;rw[hd,Ab];exact hL,fun ho=>?_⟩;have ho:ok=true:=ho;subst ho;exact⟨P.D,L,fun v hv=>hv,hD,hd⟩
theorem PlI.addTo{X:List VS}{idx:List Nat}{k:Nat}(h:PlI n T0 L0 s T G)(hX:∀x∈X,Jw G.ks G.sg x)(ha:Ed X idx k G G'):PlI n T0 L0 s T G':=by
 obtain⟨ps',rfl,hl,hx⟩:=ha;refine⟨h.inv.share (AB _) rfl rfl rfl rfl rfl hl (fun i b P' hi=>?_),h.M,h.hon,h.par,h.sd,fun i b P' hi=>?_⟩
 ·obtain⟨P,h1,⟨_,v,L,rfl,hL⟩|⟨_,rfl⟩⟩:=hx i b P' hi
  ·have hf:=h.inv.leaf i b P h1;refine⟨b,P,h1,rfl,rfl,hf.2.1,hf.2.2,by show Cc (L.map Sg.vs)=L.map Sg.vs;rw[hL,K3],PrS.D_sub (P':=P.more v L) hL,fun x hxm=>?_⟩;have hm:x.vs∈L.map Sg.vs:=List.mem_map_of_mem hxm;rw[hL]at hm;rcases AP.1 ((DC _).sub _ hm)with hm|hm
   ·obtain⟨y,hy,e⟩:=List.mem_map.1 hm;rw[<-e];exact h.inv.held i b P h1 y hy
   ·exact hX _ hm
  ·have hf:=h.inv.leaf i b P' h1;exact⟨b,P',h1,rfl,rfl,hf.2.1,hf.2.2,h.inv.can i b P' h1,fun v hv=>hv,h.inv.held i b P' h1⟩
 ·obtain⟨P,h1,⟨_,v,L,rfl,hL⟩|⟨_,rfl⟩⟩:=hx i b P' hi
  ·exact(h.dec i b P h1).more rfl rfl (PrS.D_sub (P':=P.more v L) hL)
  ·exact h.dec i b P' h1
theorem PlI.meet{idx:List Nat}{k:Nat}(h:PlI n T0 L0 s T G)(ha:Ep idx k G G'):PlI n T0 L0 s T G':=by
 refine h.addTo (fun x hx=>?_) ha;obtain⟨y,hy,rfl⟩:=List.mem_map.1 hx;obtain⟨i,_,hy⟩:=List.mem_flatMap.1 hy;unfold GmS.PL at hy;rw[List.getD_eq_getElem?_getD,AV]at hy;rcases hi:G.ps[i]? with _|⟨b,P⟩
 ·rw[hi]at hy;simp at hy
 ·rw[hi]at hy;exact h.inv.held i b P hi y hy
theorem PlI.later{T':Nat}(h:PlI n T0 L0 s T G)(hT:T<=T'):PlI n T0 L0 s T' G:=
 ⟨h.inv.share hT rfl rfl rfl rfl rfl rfl (fun i b P hi=>⟨b,P,hi,rfl,rfl,(h.inv.leaf i b P hi).2.1,by have:=(h.inv.leaf i b P hi).2.2;omega,h.inv.can i b P hi,fun v hv=>hv,h.inv.held i b P hi⟩),h.M,h.hon,h.par,h.sd,h.dec⟩
theorem PlI.lied{m:Nat}{v:Vt}{sv0 vs:Value}{sl:List Vt}(h:PlI n T0 L0 s T G)(hm:G.sg[m]? =some (sv0,sl))(hh:G.hb m=false)(hv:AW v)(hs:v.signer=(m:Int)):PlI n T0 L0 s (T+1) (G.setS m vs (sl++[v])):=by
 have hI:=h.inv;have hne:∀m',G.hb m'=true->m≠m':=fun m' h1 e=>by rw[<-e,hh]at h1;cases h1
 refine⟨⟨hI.n1,hI.kn,by show(G.sg.set _ _).length=n;rw[List.length_set];exact hI.sgn,hI.psn,hI.mem,fun i b P hi=>?_,hI.can,fun i b P hi x hx=>(hI.held i b P hi x hx).more hm,fun m' y hy u hu=>?_,fun m' b P y h1 h2 hy=>?_,fun m' y h1 hy=>?_,?_,fun m' b P y h1 h2 hy=>?_⟩,h.M,h.hon,h.par,h.sd,h.dec⟩
 ·have:=hI.leaf i b P hi;exact⟨this.1,this.2.1,by have:=this.2.2;omega⟩
 ·rcases Bu hy with⟨rfl,rfl⟩|⟨_,hy⟩
  ·rcases AP.1 hu with hu|hu
   ·exact hI.sgd _ _ hm u hu
   ·rw[AM.1 hu];exact⟨hv,hs⟩
  ·exact hI.sgd m' y hy u hu
 ·rcases Bu hy with⟨e,_⟩|⟨_,hy⟩
  ·exact absurd e (hne m' h1)
  ·exact hI.keep m' b P y h1 h2 hy
 ·rcases Bu hy with⟨e,_⟩|⟨_,hy⟩
  ·exact absurd e (hne m' h1)
  ·exact hI.uniq m' y h1 hy
 ·have e1:=JJ (fun y:Value×List Vt=>y.2.length) G.sg m _ (vs,sl++[v]) hm;have:=hI.cnt;show((G.sg.set m (vs,sl++[v])).map fun y=>y.2.length).sum<=(G.ps.map fun p=>p.2.leaf).sum+(T+1);simp only[AI,List.length_singleton]at e1;omega
 ·rcases Bu hy with⟨e,_⟩|⟨_,hy⟩
  ·exact absurd e (hne m' h1)
  ·exact hI.hn m' b P y h1 h2 hy
theorem PlI.lie{idx:List Nat}{v:Vt}(h:PlI n T0 L0 s T G)(hb:SB G.ks.length G.hon v=false)(hl:WM idx v G G'):PlI n T0 L0 s (T+1) G':=by
 obtain⟨m,y,sv0,sl,vs,h1,h2,h3,h4⟩:=hl;unfold SB at hb;rw[Bool.or_eq_false_iff,Bool.or_eq_false_iff,Bool.not_eq_false',decide_eq_true_eq,h1,Int.toNat_natCast]at hb;have hL:PlI n T0 L0 s (T+1) (G.setS m vs (sl++[v])):=h.lied h3 hb.2.2 hb.1 h1;refine hL.addTo (fun x hx=>?_) h4;rw[AM.1 hx];exact⟨hb.1,m,(vs,sl++[v]),y,1023,h1,List.getElem?_set_self (AF.1 h3).1,BY _ (AM.2 rfl),h2,by omega,rfl⟩
theorem PlI.actd{i b:Nat}{P:PrS}(h:PlI n T0 L0 s T G)(hi:G.ps[i]? =some (b,P)):PlI n T0 L0 s (T+1) (G.actd i b P):=by
 refine⟨h.inv.share (by omega) rfl rfl rfl rfl rfl (by show(G.ps.set _ _).length=_;rw[List.length_set]) (fun j b' P' hj=>?_),h.M,h.hon,h.par,h.sd,fun j b' P' hj=>?_⟩
 ·rcases Bu hj with⟨rfl,e⟩|⟨_,hj⟩
  ·injection e with e1 e2
   subst e1;subst e2;have hf:=h.inv.leaf i b' P hi;exact⟨b',P,hi,rfl,rfl,by show 0<=P.acts+1;omega,by show P.acts+1<=((T+1:Nat):Int);omega,h.inv.can i b' P hi,fun v hv=>hv,h.inv.held i b' P hi⟩
  ·have hf:=h.inv.leaf j b' P' hj;exact⟨b',P',hj,rfl,rfl,hf.2.1,by omega,h.inv.can j b' P' hj,fun v hv=>hv,h.inv.held j b' P' hj⟩
 ·rcases Bu hj with⟨rfl,e⟩|⟨_,hj⟩
  ·injection e with e1 e2
   subst e1;subst e2;exact(h.dec i b' P hi).more rfl rfl (fun v hv=>hv)
  ·exact h.dec j b' P' hj
theorem PlI.sgn{i:Nat}{v:Vt}(h:PlI n T0 L0 s T G)(hs:Ke i v G G')(hf:∀(b:Nat) (P:PrS),G.ps[i]? =some (b,P)->v.signer=(P.mem:Int)/\O7 P v/\Nw G.M G.par P v):PlI n T0 L0 s T G':=by
 have hI:=h.inv.sgn' hs hf;obtain⟨b,P,k,sv0,sl,va,vs,L,h1,h2,h3,h4,h5,rfl⟩:=hs;refine⟨hI,h.M,h.hon,h.par,h.sd,fun j b' P' hj=>?_⟩;rcases Bu hj with⟨rfl,e⟩|⟨_,hj⟩
 ·injection e with e1 e2
  subst e1;subst e2;exact(h.dec i b' P h1).more rfl rfl (PrS.D_sub (P':=P.signd va L) h5)
 ·exact h.dec j b' P' hj
theorem J6{par pay:Nm}{P:PrS}(h:Du par P.mem P.D=false):O7 P (Fh par P.mem pay):=fun u hu hk=>by
 obtain⟨h1,h2,_,h4,h5⟩:=hk;unfold Du at h;rw[List.any_eq_false]at h;refine h u hu ?_;rw[show u.kind=1 from h1,show u.slot=(P.mem:Int)from h2,show u.signer=(P.mem:Int)from h4,show u.parent=par from h5];simp
theorem Nw.prop{M:Int}{par pay:Nm}{P:PrS}:Nw M par P (Fh par P.mem pay):=
 ⟨⟨by show(1:Int)<=4;decide,rfl⟩,fun h=>(by rcases h with h|h <;> cases h),fun h=>(by cases h),fun h=>(by cases h)⟩
theorem PrS.D_str(P:PrS):Eo P.D:=by
 unfold Eo PrS.D EY;rw[List.pairwise_map];exact(DC _).asc
theorem Hv.noKey{i:Nat}{v:Vt}(h:PlI n T0 L0 s T G)(hd:Hv i G (some v)):∀(b:Nat) (P:PrS),G.ps[i]? =some (b,P)->v.signer=(P.mem:Int)/\O7 P v/\Nw G.M G.par P v:=fun b P hi=>by
 obtain⟨b',P',h1,h2⟩:=hd;rw[hi]at h1;injection h1 with h1
 injection h1 with h1 h1'
 subst h1;subst h1';obtain⟨sl,_,_,d2,d3,d4,d5⟩:=h2.due (PrS.D_valid fun x hx=>(h.inv.held i b P hi x hx).1);refine⟨d3,fun u hu hk=>?_,?_⟩;rotate_left
 ·obtain⟨sl',hs',_,hN⟩:=h2;have hq:0<Bd (Ae (xOf G.M) 10):=by
   obtain⟨⟨hf,hm⟩,_⟩:=hN;refine IP (Hh 10 (i:=(P.mem:Int).toNat) (by omega) hm)
  have vP:∀u∈P.D,AW u:=PrS.D_valid fun x hx=>(h.inv.held i b P hi x hx).1
  obtain⟨r,r1,r2,r3,r4⟩:=O4 rfl hq P.D_str vP hs' hN;have own:∀{k t:Int},Own (vS sl' G.par P.D) P.mem k t->∃u∈P.D,u.signer=v.signer/\u.slot=v.slot/\u.kind=k/\u.round=t:=fun⟨u,hu,u1,u2,u3⟩=>by
   have:=Bw.1 hu;exact⟨u,this.1,by rw[u1,r2],by rw[this.2.1,r1],u2,u3⟩
  have hk4:v.kind<=4:=by
   obtain⟨_,_,_,hN⟩:=hN;rcases hN with hN|⟨_,hN|⟨_,O,r,_,_,_,_,hN|⟨_,_,hN⟩⟩⟩
   ·obtain⟨_,O,k,_,_,_,_,rfl⟩:=hN;simp
   ·obtain⟨_,⟨O,O',k,_,_,_,_,rfl⟩|⟨_,_,rfl⟩⟩:=hN <;> simp
   ·obtain⟨_,_,⟨x,_,_,rfl⟩|⟨_,_,rfl⟩⟩:=hN <;> simp
   ·obtain⟨_,_,⟨x,_,_,rfl⟩|⟨_,_,x,_,rfl⟩⟩:=hN <;> simp
  have es:v.slot.toNat=sl':=by rw[r1];rfl
  exact⟨⟨hk4,r3⟩,fun _=>by rw[es];exact r.alw,fun e=>own (r.prec e).1,fun e e'=>own (r.prev e e').1⟩
 obtain⟨k1,k2,k3,k4,k5⟩:=hk;unfold owF at d5;rw[List.any_eq_false]at d5;refine d5 u (List.mem_filter.2 ⟨hu,?_⟩) ?_
 ·rw[k2,k5,d2,d4];simp
 ·rw[k1,k3,k4,d3];simp
end
end
section
open Go.RowKit
attribute [local go_sem ↓] Go.wp_at_zero Go.wp_at_succ Aq Au Av Aw
attribute [local go_sem] BE BL BM BN AR AX AU
def J7(b:Nat)(w:World):Nat:=match w.cell? ⟨b,3,none⟩with
 |some (.int _ x)=>x.toNat
 |_=>0
theorem C7.usedAt{Bs b:Nat}{w:World}{P:PrS}(h:C7 Bs w b P):J7 b w=P.leaf:=by
 unfold Proofs.YtadllffeoibelaaGreat.J7;rw[show w.cell? ⟨b,3,none⟩=some (.int .i64 (P.leaf:Int))from h.blk.cell 3];simp
theorem EE(o:Option Vt):(Fj o).size=22:=by cases o <;> rfl
theorem J8{o:Option Vt}{u:Value}(h:u∈(Fj o).toList):u.oneCell'=true:=by
 cases o with
 |none=>exact CL h
 |some v=>exact BH v h
theorem PrS.D_len(P:PrS):P.D.length<=P.L.length:=by
 show((Cc _).map _).length<=_;rw[Ab];have:=FF (P.L.map Sg.vs);rwa[Ab]at this
theorem SK(D:List Vt):(DL D).length<=D.length:=by
 unfold DL;rw[Ab];exact List.length_filter_le _ _
section
variable {Bs g i b mem c:Nat}{a1:Int}{par pay:Nm}{M:Int}{ks:List KyS}{V:World}{G:GmS}{P:PrS}
theorem GT(h:Ax Bs V g G)(k:E9 i b mem a1 par M pay ks c G P):V.cell? ⟨g,0,none⟩=some (.int .i64 M)/\AK V g 2 8=some par.cells/\V.cell? ⟨b,1,none⟩=some (.int .i64 (mem:Int))/\V.cell? ⟨b,2,none⟩=some (.int .i64 a1)/\AK V b 4 8=some pay.cells:=by
 have hP:=(h.prs _ _ k.hi).1;refine⟨?_,?_,?_,?_,?_⟩
 ·rw[<-k.M];exact h.blk.cell 0
 ·rw[<-k.par];exact h.row_par
 ·rw[<-k.mem];exact hP.blk.cell 1
 ·rw[<-k.acts];exact hP.blk.cell 2
 ·rw[<-k.pay];exact hP.row_pay
theorem E9.len'(k:E9 i b mem a1 par M pay ks c G P)(hc:c<=900000):P.L.length<=999000:=by
 have:=k.len;have:=k.lf;omega
theorem PK(h:Ax Bs V g G)(k:E9 i b mem a1 par M pay ks c G P)(hc:c<=900000):Calls prog 73 #[At g,At b] V (JG P.D par mem V):=by
 have:=Ln h k.hi (by have:=k.len' hc;omega);rwa[k.par,k.mem]at this
theorem T1(h:Ax Bs V g G)(k:E9 i b mem a1 par M pay ks c G P)(hc:c<=900000):Calls prog 44 #[At b] V (El V P.D):=
 Gi (h.prs _ _ k.hi).1 (by have:=k.len' hc;omega)
def SgA(Bs g i:Nat)(v:Vt)(G:GmS)(P:PrS)(V:World)(e:Ending)(w':World):Prop:=∃ok:Bool,e= .returned (.bool ok)/\Below Bs V w'/\
 ((ok=false/\¬(AW v/\P.leaf<1024)/\Ax Bs w' g G)∨(ok=true/\∃G',Ke i v G G'/\Ax Bs w' g G'))
theorem T2{y:KyS}(h:Ax Bs V g G)(k:E9 i b mem a1 par M pay ks c G P)(hc:c<=900000)(hB:Bs<=V.heap.size)(hk:ks[mem]? =some y)(v:Vt)(hv:v.ok):Calls prog 74 #[At g,At b,v.val] V (SgA Bs g i v G P V):=by
 obtain⟨⟨sv0,sl⟩,hs,hsl⟩:=k.sg;have hlf:=k.lf;have hK:G.ks[P.mem]? =some y:=by rw[k.ks,k.mem];exact hk
 have hS:G.sg[P.mem]? =some (sv0,sl):=by rw[k.mem];exact hs
 refine(Rx h hB k.hi hK hS v hv (by have:=k.len' hc;omega) (by have:sl.length<=c+P.leaf:=hsl;omega)).mono ?_;rintro e w' ⟨hb,⟨h1,rfl,h2⟩|⟨h1,rfl,va,vs,L,h2,h3⟩⟩
 ·exact⟨false,rfl,hb,.inl ⟨rfl,h1,h2⟩⟩
 ·exact⟨true,rfl,hb,.inr ⟨rfl,_,⟨b,P,y,sv0,sl,va,vs,L,k.hi,hK,hS,h1,h2,rfl⟩,h3⟩⟩
theorem SgA.cells{v:Vt}{W:World}{e:Ending}(h:SgA Bs g i v G P W e V)(k:E9 i b mem a1 par M pay ks c G P):V.cell? ⟨g,0,none⟩=some (.int .i64 M)/\AK V g 2 8=some par.cells/\V.cell? ⟨b,1,none⟩=some (.int .i64 (mem:Int))/\V.cell? ⟨b,2,none⟩=some (.int .i64 a1)/\AK V b 4 8=some pay.cells:=by
 obtain⟨_,_,_,⟨_,_,h⟩|⟨_,G',hs,h⟩⟩:=h
 ·exact GT h k
 ·obtain⟨P',k',_⟩:=hs.actK k;exact GT h k'
end
def T3(Bs g i b mem c:Nat)(a1:Int)(par pay:Nm)(M:Int)(ks:List KyS)(Inv:GmS->Prop)(w:World)(e:Ending)(w':World):Prop:=
 e= .returned (.tuple #[])/\Below Bs w w'/\∃(G':GmS) (P':PrS),Ax Bs w' g G'/\E9 i b mem a1 par M pay ks c G' P'/\Inv G'/\(Hv i G' none∨P'.leaf=1024)
theorem Lt{Bs g i b mem c:Nat}{acts:Int}{par pay:Nm}{M:Int}{ks:List KyS}{w:World}{G:GmS}{P:PrS}{y:KyS}(Inv:GmS->Prop)(h:Ax Bs w g G)(hBs:Bs<=w.heap.size)(hc:c<=900000)(k:E9 i b mem acts par M pay ks c G P)(hk:ks[mem]? =some y)(hm:mem<=9)(ha:0<=acts/\acts<1000000)(hA:Du par mem P.D=true->Inv (G.actd i b P))(hB:Du par mem P.D=false->∀G',Ke i (Fh par mem pay) (G.actd i b P) G'->Inv G')(hC:Du par mem P.D=false->¬(AW (Fh par mem pay)/\P.leaf<1024)->Inv (G.actd i b P))(hS:∀G1 G2 v,Inv G1->Hv i G1 (some v)->Ke i v G1 G2->Inv G2):Calls prog 39 #[At g,At b] w (T3 Bs g i b mem c (acts+1) par pay M ks Inv w):=by
 have hP:=(h.prs _ _ k.hi).1;have hbB:Bs<=b:=(h.prs _ _ k.hi).2;have y2:w.cell? ⟨b,2,none⟩=some (.int .i64 acts):=by rw[<-k.acts];exact hP.blk.cell 2
 have y2f:w.frozen? ⟨b,2,none⟩=false:=hP.blk.frozen 2;obtain⟨a1,ha1⟩:=Wr (acts+1);have hwa:IntKind.i64.wrap (acts+1)=a1:=by rw[ha1,IntKind.wrap_i64];omega
 rw[<-ha1];obtain⟨w1,hw1⟩:=Wr (w.setCell ⟨b,2,none⟩ (.int .i64 a1));have hg1:w.grownBy w1 (some b):=by rw[hw1];exact Bl (p:=⟨b,2,none⟩) (Al w b) rfl _
 obtain⟨P1,hP1⟩:∃P1:PrS,P1={P with acts:=P.acts+1}:=⟨_,rfl⟩;have hA1:C7 Bs w1 b P1:=by
  rw[hP1];refine⟨by rw[hw1,ha1,<-k.acts];exact hP.blk.put 2 _,BK hP.row hg1 (.blk hP.blk (by decide)),fun s hs=>(hP.sgs s hs).off hg1 (.blk hP.blk (by decide)),BK hP.dec hg1 (.blk hP.blk (by decide))⟩
 have hG1:Ax Bs w1 g (G.setP i b P1):=h.setP k.hi hg1 hA1;have hK1:E9 i b mem a1 par M pay ks c (G.setP i b P1) P1:=by
  rw[hP1];exact⟨List.getElem?_set_self (AF.1 k.hi).1,k.mem,by rw[ha1,<-k.acts],k.pay,k.par,k.M,k.ks,k.sg,k.len,k.val,k.lf⟩
 have zE:Below Bs w w1:=(AC _ _).grown hg1 hBs (Wt hbB);have yE:Bs<=w1.heap.size:=AG hBs hg1.size;obtain⟨own,xB⟩:=Wr (Du par mem P.D);have hD1:P1.D=P.D:=by rw[hP1]
 have hl1:P1.leaf=P.leaf:=by rw[hP1]
 have hGz:Hid (Calls prog 73 #[At g,At b] w1 fun e w2=>∃v,e= .returned (.tuple #[v,.bool own])/\Wx w1 w2):=by
  unfold Hid;rw[xB,<-hD1];exact(PK hG1 hK1 hc).mono fun e w2 ⟨v,h1,_,h3⟩=>⟨v,h1,h3⟩
 rw[<-xB]at hA hB hC;obtain⟨G1,hGe⟩:=Wr (G.setP i b P1);have hGd:G.actd i b P=G1:=by rw[hGe,hP1]
 rw[hGd]at hA hB hC;rw[<-hGe]at hG1 hK1;rw[<-hl1]at hC;have HA:=AA hA;have HB:=AA hB;have HC:=AA hC;have HS:=AA hS;have HG1:=AA hG1;have HK1:=AA hK1;have HW1:=AA hw1;have HKy:=AA hk;have HPr:Hid (∀V G' P',Ax Bs V g G'->E9 i b mem a1 par M pay ks c G' P'->Calls prog 73 #[At g,At b] V (JG P'.D par mem V)):=fun V G' P' h k=>PK h k hc
 have HVt:Hid (∀V G' P',Ax Bs V g G'->E9 i b mem a1 par M pay ks c G' P'->Calls prog 44 #[At b] V (El V P'.D)):=fun V G' P' h k=>T1 h k hc
 have HSg:Hid (∀V G' P' v,Ax Bs V g G'->E9 i b mem a1 par M pay ks c G' P'->Bs<=V.heap.size->v.ok->Calls prog 74 #[At g,At b,v.val] V (SgA Bs g i v G' P' V)):=fun V G' P' v h k hB hv=>T2 h k hc hB hk v hv
 clear h k hk hA hB hC hS hP hg1 hA1 hG1 hK1 hw1 hP1 hD1 hl1 hGe xB ha1 hGd;go_enter func39,ntmps39;go_upto_region 1 with fail
 simp only[<-HW1.out];go_upto_if 24 with(go_at_call 73;refine hGz.out.mono ?_;rintro en w2 ⟨v2,rfl,hb2⟩)
 have yo:Below Bs w w2:=zE.trans (hb2.mono yE);have zL:Bs<=w2.heap.size:=AG yE hb2.size;have HG2:=AA (HG1.out.below hb2);clear hGz;go_cut[4] (fun _ wx=>∃G' P',Ax Bs wx g G'/\E9 i b mem a1 par M pay ks c G' P'/\Inv G'/\Below Bs w wx)
 case first=>
  cases own with
  |true=>
   go_wp2;go_meet;exact⟨G1,P1,HG2.out,HK1.out,(by first|exact HA.out rfl|exact HA.out trivial),yo⟩
  |false=>
   have HX:Hid (∀V,Wx w2 V->V.cell? ⟨g,0,none⟩=some (.int .i64 M)/\AK V g 2 8=some par.cells/\V.cell? ⟨b,1,none⟩=some (.int .i64 (mem:Int))/\V.cell? ⟨b,2,none⟩=some (.int .i64 a1)/\AK V b 4 8=some pay.cells):=fun V hV=>GT (HG2.out.below hV) HK1.out
   have HSg2:Hid (∀V,Wx w2 V->Calls prog 74 #[At g,At b,(Fh par mem pay).val] V (SgA Bs g i (Fh par mem pay) G1 P1 V)):=fun V hV=>HSg.out V G1 P1 _ (HG2.out.below hV) HK1.out (AG zL hV.size) ⟨by simp,by simp⟩
   go_upto_region 3 with fail
   refine rgD (fun V=>V.cell? ⟨g,0,none⟩=some (.int .i64 M)/\AK V g 2 8=some par.cells/\V.cell? ⟨b,1,none⟩=some (.int .i64 (mem:Int))/\V.cell? ⟨b,2,none⟩=some (.int .i64 a1)/\AK V b 4 8=some pay.cells) (HX.out _ (AC w2.heap.size w2).drew) fun _=>?_
   iterate 19 (refine tkA ?_;go_frame)
   refine rd1 19 fun K hK=>?_
   go_simp;refine(HSg2.out _ (AC w2.heap.size w2).drew).mono ?_;rintro en w4 hs4;have HX4:=AA (hs4.cells HK1.out);obtain⟨ok,rfl,hb4,hs4⟩:=hs4;go_wp2_with fail
   refine hK.out _ _ (HX4.out) (fun _=>?_);clear hK K;try go_frame
   refine dnD ?_;have yW:Below Bs w w4:=(yo.trans (AC _ _).drew).trans hb4;have HS4:=AA hs4;clear hs4 hb4;go_wp2;go_meet;rcases HS4.out with⟨_,h1,h2⟩|⟨_,G',h1,h2⟩
   ·exact⟨G1,P1,h2,HK1.out,(by first|exact HC.out rfl h1|exact HC.out trivial h1),yW⟩
   ·obtain⟨P',k',_⟩:=h1.actK HK1.out;exact⟨G',P',h2,k',(by first|exact HB.out rfl G' h1|exact HB.out trivial G' h1),yW⟩
 case rest=>
  obtain⟨G3,P3,hG3,hK3,hI3,xd⟩:=hcut;generalize wc=w3 at*;have HG3:=AA hG3;have HK3:=AA hK3;have HI3:=AA hI3;clear hG3 hK3 hI3 HG2 yo zL HA HB HC HG1 HK1 y2 y2f;go_wp2
  go_loopw [6] (fun _ wr=>∃G' P',Ax Bs wr g G'/\E9 i b mem a1 par M pay ks c G' P'/\Inv G'/\Below Bs w wr) (fun _ wr=>1024-J7 b wr)
  case atStart=>exact⟨G3,P3,HG3.out,HK3.out,HI3.out,xd⟩
  case round=>
   obtain⟨G4,P4,hG4,hK4,hI4,yW⟩:=hrel;have yS:Bs<=wr.heap.size:=AG hBs yW.size;obtain⟨D,hD⟩:=Wr P4.D;have hD6:D.length<=1000000:=by
    rw[hD];have h1:=hK4.len' hc;have h2:=P4.D_len;omega
   have hN6:(DL D).length<=1000000:=AG (SK D) hD6;have HDv:Hid (∀v∈D,AW v):=by rw[hD];exact PrS.D_valid hK4.val
   have hlf:J7 b wr=P4.leaf:=(hG4.prs _ _ hK4.hi).1.usedAt;have hHA:Hid (Calls prog 73 #[At g,At b] wr (JG D par mem wr)):=by rw[hD];exact HPr.out wr G4 P4 hG4 hK4
   have hHB:Hid (∀V,Wx wr V->Calls prog 44 #[At b] V (El V D)):=fun V hV=>by rw[hD];exact HVt.out V G4 P4 (hG4.below hV) hK4
   have HX4:Hid (∀V,Wx wr V->V.cell? ⟨g,0,none⟩=some (.int .i64 M)/\AK V g 2 8=some par.cells/\V.cell? ⟨b,1,none⟩=some (.int .i64 (mem:Int))/\V.cell? ⟨b,2,none⟩=some (.int .i64 a1)/\AK V b 4 8=some pay.cells):=fun V hV=>GT (hG4.below hV) hK4
   have HDu:Hid (∀o,Cj M par (mem:Int) D (DL D) (decide (2<a1)) o->Hv i G4 o):=fun o ho=>⟨b,P4,hK4.hi,by rw[hK4.M,hK4.par,hK4.mem,hK4.acts,<-hD];exact ho⟩
   have HG4:=AA hG4;have HK4:=AA hK4;have HI4:=AA hI4;have HLf:=AA hlf;clear hG4 hK4 hI4 hD hlf HG3 HK3 HI3;go_upto_region 5 with(go_at_call 73;refine hHA.out.mono ?_;rintro en w5 ⟨v5,rfl,xW,hb5⟩;obtain⟨A5,c5,rfl,hR5⟩:=Bg xW;have HR5:=AA hR5;clear xW hR5)
   obtain⟨nH,hnH⟩:=Ws ((DL D).length);rw[hnH]at hN6 ⊢;obtain⟨wt,hwt⟩:=Wr (decide (2<a1));have HWt:=AA hwt;have hBh:Bs<=w5.heap.size:=AG yS hb5.size;have hEq:Below Bs w w5:=yW.trans (hb5.mono yS);have HX5:Hid (∀V,Wx w5 V->V.cell? ⟨g,0,none⟩=some (.int .i64 M)/\AK V g 2 8=some par.cells/\V.cell? ⟨b,1,none⟩=some (.int .i64 (mem:Int))/\V.cell? ⟨b,2,none⟩=some (.int .i64 a1)/\AK V b 4 8=some pay.cells):=fun V hV=>HX4.out V (hb5.trans (hV.mono hb5.size))
   have hE0:Hid (∀V,Wx w5 V->Calls prog 44 #[At b] V (El V D)):=fun V hV=>hHB.out V (hb5.trans (hV.mono hb5.size))
   have HNx:Hid (∀V A c',Wx w5 V->Rd V V.heap.size A (D.flatMap vtc)->Calls prog 75 #[.int .i64 M,par.val,.slice A D.length c',.int .i64 (mem:Int),.slice A5 nH c5,.bool (decide (2<a1))] V (DA (Cj M par (mem:Int) D (DL D) (decide (2<a1))) V)):=fun V A c' hV hR=>
    QD M par A D.length c' D (mem:Int) A5 nH c5 (DL D) (decide (2<a1)) V rfl hR hD6 HDv.out (by omega) hnH ((HR5.out.below hV).more hV.size) hN6
   clear hnH HX4 hHB hHA HR5;go_cut[8,9] (fun pv bv wx=>∃z o,pv= .pointer (some ⟨z,0,none⟩)/\bv= .bool (Option.isSome o)/\Blk wx z 46 (Fj o)/\Cj M par (mem:Int) D (DL D) (decide (2<a1)) o/\Wx w5 wx)
   case first=>
    refine rgD (fun V=>V.cell? ⟨g,0,none⟩=some (.int .i64 M)/\AK V g 2 8=some par.cells/\V.cell? ⟨b,1,none⟩=some (.int .i64 (mem:Int))/\V.cell? ⟨b,2,none⟩=some (.int .i64 a1)/\AK V b 4 8=some pay.cells) (HX5.out _ (AC w5.heap.size w5).drew) fun _=>?_
    iterate 11 (refine tkA ?_;go_frame)
    refine tkD 64 12 ?_;go_frame;refine tkD 65 13 ?_;go_frame;refine tkD 66 14 ?_;go_frame;refine tkD 67 15 ?_;go_frame;refine tkD 68 16 ?_;go_frame;refine tkD 69 17 ?_;go_frame;refine tkD 70 18 ?_;go_frame;refine tkD 71 19 ?_;go_frame;refine tkD 72 20 ?_;go_frame;refine tkD 73 21 ?_;go_frame;refine rd2 11 26 (fun K hK=>?_) fun K hK=>?_
    ·go_simp;refine(hE0.out _ ((AC w5.heap.size w5).drew)).mono ?_;rintro en w6 ⟨v6,rfl,hb6,xn⟩;obtain⟨A6,c6,rfl,hR6⟩:=Bg xn;have HR6:=AA hR6;have xm:Wx w5 w6:=((AC w5.heap.size w5).drew).trans (hb6.mono (Below.size ((AC w5.heap.size w5).drew)));clear xn hR6;go_wp2_with fail
     refine hK.out _ _ (HX5.out _ xm) (fun _=>?_);clear hK K;try go_frame
     refine rd2 22 26 (fun K hK=>?_) fun K hK=>?_
     ·go_simp;refine(HNx.out _ A6 c6 (xm) (HR6.out)).mono ?_;rintro en w7 ⟨o,rfl,ho,hb7⟩;have yG:Wx w5 w7:=(xm).trans (hb7.mono (Below.size (xm)));have HO:=AA ho;clear ho;go_wp2_with fail
      refine hK.out _ _ (HX5.out _ yG) (fun _=>?_);clear hK K;try go_frame
      refine tkD 51 23 ?_;go_frame;refine tkD 75 24 ?_;go_frame;refine tkD 76 25 ?_;go_frame;refine rd1 26 fun K hK=>?_
      go_simp;refine hK.out _ _ (HX5.out _ (yG.alloc yG.size _)) (fun _=>?_);clear hK K;try go_frame
      refine rd1 27 fun K hK=>?_
      rw[if_pos (by rfl)];refine BU 46 (.tmp 8) (.tmp 75) (by rfl) w7.heap.size (Fj o) (by rfl) (by rfl) 46 Ai (Blk.new w7 _ _) (by rw[EE];rfl) (by rw[EE];exact Ao) (fun u hu=>J8 hu) (by rfl) ?_;intro w8 hR8 hg8 hHC;refine hK.out _ _ (HX5.out _ (Below.grown (yG.alloc yG.size _) hg8 (Below.size (yG.alloc yG.size _)) (Wt yG.size))) (fun _=>?_);clear hK K;try go_frame
      refine tkD 9 28 ?_;go_frame;refine dnD ?_;go_wp2_with fail
      go_meet;exact⟨w7.heap.size,o,rfl,rfl,hR8,HO.out,Below.grown (yG.alloc yG.size _) hg8 (Below.size (yG.alloc yG.size _)) (Wt yG.size)⟩
     ·go_simp;refine hK.out _ _ (HX5.out _ (xm.alloc xm.size _)) (fun _=>?_);clear hK K;try go_frame
      refine rd1 22 fun K hK=>?_
      go_simp;refine(HNx.out _ A6 c6 (xm.alloc xm.size _) ((HR6.out.below ((AC _ w6).alloc (AB _) _)).more (by simp))).mono ?_;rintro en w7 ⟨o,rfl,ho,hb7⟩;have yG:Wx w5 w7:=(xm.alloc xm.size _).trans (hb7.mono (Below.size (xm.alloc xm.size _)));have HO:=AA ho;clear ho;have hZ7:Blk w7 w6.heap.size 46 Ai:=Blk.below (Blk.new w6 _ _) hb7 (by simp);go_wp2_with fail
      refine hK.out _ _ (HX5.out _ yG) (fun _=>?_);clear hK K;try go_frame
      refine tkD 51 23 ?_;go_frame;refine tkD 75 24 ?_;go_frame;refine tkD 76 25 ?_;go_frame;refine rd1 27 fun K hK=>?_
      rw[if_pos (by rfl)];refine BU 46 (.tmp 8) (.tmp 75) (by rfl) w6.heap.size (Fj o) (by rfl) (by rfl) 46 Ai (hZ7) (by rw[EE];rfl) (by rw[EE];exact Ao) (fun u hu=>J8 hu) (by rfl) ?_;intro w8 hR8 hg8 hHC;refine hK.out _ _ (HX5.out _ (Below.grown (yG) hg8 (Below.size (yG)) (Wt xm.size))) (fun _=>?_);clear hK K;try go_frame
      refine tkD 9 28 ?_;go_frame;refine dnD ?_;go_wp2_with fail
      go_meet;exact⟨w6.heap.size,o,rfl,rfl,hR8,HO.out,Below.grown (yG) hg8 (Below.size (yG)) (Wt xm.size)⟩
    ·go_simp;refine hK.out _ _ (HX5.out _ (((AC w5.heap.size w5).alloc (AB _) _).drew)) (fun _=>?_);clear hK K;try go_frame
     refine rd1 11 fun K hK=>?_
     go_simp;refine(hE0.out _ (((AC w5.heap.size w5).alloc (AB _) _).drew)).mono ?_;rintro en w6 ⟨v6,rfl,hb6,xn⟩;obtain⟨A6,c6,rfl,hR6⟩:=Bg xn;have HR6:=AA hR6;have xm:Wx w5 w6:=(((AC w5.heap.size w5).alloc (AB _) _).drew).trans (hb6.mono (Below.size (((AC w5.heap.size w5).alloc (AB _) _).drew)));clear xn hR6;have hZ6:Blk w6 w5.heap.size 46 Ai:=Blk.below (w:=(w5.alloc (.cells Ai 46)).drew) (Blk.new w5 _ _) hb6 (by simp);go_wp2_with fail
     refine hK.out _ _ (HX5.out _ xm) (fun _=>?_);clear hK K;try go_frame
     refine rd1 22 fun K hK=>?_
     go_simp;refine(HNx.out _ A6 c6 (xm) (HR6.out)).mono ?_;rintro en w7 ⟨o,rfl,ho,hb7⟩;have yG:Wx w5 w7:=(xm).trans (hb7.mono (Below.size (xm)));have HO:=AA ho;clear ho;have hZ7:=hZ6.below hb7 hZ6.lt;go_wp2_with fail
     refine hK.out _ _ (HX5.out _ yG) (fun _=>?_);clear hK K;try go_frame
     refine tkD 51 23 ?_;go_frame;refine tkD 75 24 ?_;go_frame;refine tkD 76 25 ?_;go_frame;refine rd1 27 fun K hK=>?_
     rw[if_pos (by rfl)];refine BU 46 (.tmp 8) (.tmp 75) (by rfl) w5.heap.size (Fj o) (by rfl) (by rfl) 46 Ai (hZ7) (by rw[EE];rfl) (by rw[EE];exact Ao) (fun u hu=>J8 hu) (by rfl) ?_;intro w8 hR8 hg8 hHC;refine hK.out _ _ (HX5.out _ (Below.grown (yG) hg8 (Below.size (yG)) (Wt (AB _)))) (fun _=>?_);clear hK K;try go_frame
     refine tkD 9 28 ?_;go_frame;refine dnD ?_;go_wp2_with fail
     go_meet;exact⟨w5.heap.size,o,rfl,rfl,hR8,HO.out,Below.grown (yG) hg8 (Below.size (yG)) (Wt (AB _))⟩
   case rest=>
    obtain⟨z,o,rfl,rfl,hZ,ho,hb6⟩:=hcut;generalize wc=w6 at*;have xm:=hb5.trans (hb6.mono hb5.size);have hA7:Below Bs w w6:=hEq.trans (hb6.mono hBh);have hBD:Bs<=w6.heap.size:=AG hBh hb6.size;have HG6:=AA (HG4.out.below xm);have hHD:=AA (HDu.out o ho);have HSo:=AA ho;clear ho hb6 hb5 HNx hE0 HX5 HG4;cases o with
    |none=>
     clear hZ;go_wp2;go_end0;exact⟨rfl,hA7,G4,P4,HG6.out,HK4.out,HI4.out,.inl hHD.out⟩
    |some v=>
     simp only[Fj,Option.isSome_some]at hZ ⊢;have x1:AK w6 z 0 22=some v.cells:=hZ.row 22 rfl;have hvv:AW v:=by
      obtain⟨s,_,hd⟩:=HSo.out.due HDv.out;exact hd.1
     have HSg6:=AA (HSg.out w6 G4 P4 v HG6.out HK4.out hBD (WI hvv));have HVv:=AA hvv;clear hZ hvv;go_upto_if 85 with(go_at_call 74;refine HSg6.out.mono ?_;rintro en w7 ⟨ok,rfl,hb7,hs7⟩;have HS7:=AA hs7;clear hs7)
     have zS:=hA7.trans hb7;cases ok with
     |false=>
      go_wp2;go_end0;rcases HS7.out with⟨_,h1,h2⟩|⟨h,_⟩
      ·refine⟨rfl,zS,G4,P4,h2,HK4.out,HI4.out,.inr ?_⟩;have h3:=HK4.out.lf;by_cases h4:P4.leaf<1024
       ·exact absurd ⟨HVv.out,h4⟩ h1
       ·omega
      ·cases h
     |true=>
      go_wp2;go_roundw
      case rel=>
       rcases HS7.out with⟨h,_⟩|⟨_,G',h1,h2⟩
       ·cases h
       ·obtain⟨P',k',_⟩:=h1.actK HK4.out;exact⟨G',P',h2,k',HS.out G4 G' v HI4.out hHD.out h1,zS⟩
      case measure=>
       rcases HS7.out with⟨h,_⟩|⟨_,G',h1,h2⟩
       ·cases h
       ·obtain⟨P',k',e1,e2⟩:=h1.actK HK4.out;have e3:J7 b w7=P'.leaf:=(h2.prs _ _ k'.hi).1.usedAt;have e4:J7 b wr=P4.leaf:=HLf.out;omega
end
section
open Go.RowKit
theorem Gq(M:Int)(n:Nat):(CY M n).Nodup:=List.Pairwise.sublist List.filter_sublist List.nodup_range
section
variable {Bs g n T:Nat}{T0 L0:Int}{sd:Nm}{w:World}{G:GmS}
theorem VF{p b:Nat}{P:PrS}(h:Ax Bs w g G)(hBs:Bs<=w.heap.size)(hI:PlI n T0 L0 sd T G)(hT:T<=90)(hi:G.ps[p]? =some (b,P)):Calls prog 39 #[At g,At b] w fun e w'=>e= .returned (.tuple #[])/\Below Bs w w'/\∃G',Ax Bs w' g G'/\PlI n T0 L0 sd (T+1) G':=by
 have hm:=hI.inv.mem p b P hi;have hn:=hI.inv.n1;obtain⟨y,hy⟩:∃y,G.ks[P.mem]? =some y:=⟨_,AE (by rw[hI.inv.kn];exact hm.1)⟩;obtain⟨x,hx⟩:∃x,G.sg[P.mem]? =some x:=⟨_,AE (by rw[hI.inv.sgn];exact hm.1)⟩;have hlf:=hI.inv.leaf p b P hi;have k:E9 p b P.mem P.acts G.par G.M P.pay G.ks 20600 G P:=⟨hi,rfl,rfl,rfl,rfl,rfl,rfl,⟨x,hx,by have:=hI.inv.slen hx;omega⟩,by have:=hI.inv.len hi;omega,fun x hx=>(hI.inv.held p b P hi x hx).1,hlf.1⟩;refine(Lt (PlI n T0 L0 sd (T+1)) h hBs (by omega) k hy (by omega) (by omega) (fun _=>hI.actd hi) (fun hp G' hs=>(hI.actd hi).sgn hs (fun b' P' hi'=>?_)) (fun _ _=>hI.actd hi) (fun G1 G2 v h1 hd hs=>h1.sgn hs (Hv.noKey h1 hd))).mono ?_
 ·rw[show(G.actd p b P).ps=G.ps.set p (b,{P with acts:=P.acts+1})from rfl,List.getElem?_set_self (AF.1 hi).1]at hi';injection hi' with hi'
  injection hi' with e1 e2
  subst e2;exact⟨rfl,J6 hp,Nw.prop⟩
 ·rintro e w' ⟨h1,h2,G',P',h3,_,h4,_⟩;exact⟨h1,h2,G',h3,h4⟩
def We(Bs g n T:Nat)(T0 L0:Int)(sd:Nm)(s:Stp)(G:GmS)(w:World)(e:Ending)(w':World):Prop:=
 (∃x:Int,e= .returned (.int .i64 x))/\Below Bs w w'/\(s.kind=2->Cv w w')/\∃G',Ax Bs w' g G'/\PlI n T0 L0 sd (T+1) G'/\(s.kind=2->∃G1,Ep (CY s.procs G.ps.length) (CY s.procs G.ps.length).length G G1/\CQ G1.ps.length G1 G')
theorem WN(s:Stp)(hv:s.vote.ok)(h:Ax Bs w g G)(hBs:Bs<=w.heap.size)(hI:PlI n T0 L0 sd T G)(hT:T<=90):Calls prog 22 #[At g,s.val] w (We Bs g n T T0 L0 sd s G w):=by
 have hn:=hI.inv.n1;have hps:=hI.inv.psn;have hCW:G.ps.length<=20:=by omega
 have hcl:=J1 s.procs G.ps.length;have hsm:∀(i b:Nat) (P:PrS),G.ps[i]? =some (b,P)->P.L.length<=25000:=fun i b P hi=>by have:=hI.inv.len hi;omega
 refine(N1 s (fun G'=>PlI n T0 L0 sd (T+1) G'/\(s.kind=2->Ep (CY s.procs G.ps.length) (CY s.procs G.ps.length).length G G')) h hBs hCW (fun hk p b P V _ hP hV hB=>?_) (fun hk V A m c hV hB hm hr=>?_) (fun hk V A m c hV hB hm hr=>?_) (fun G' hG'=>hG'.1.good (by omega))).mono ?_
 ·refine(VF hV hB hI hT hP).mono ?_;rintro e w' ⟨a1,a2,G',a3,a4⟩;exact⟨a1,a2,fun h2=>by omega,G',a3,a4,fun h2=>by omega⟩
 ·refine(Mk hV hB _ (Gq _ _) (fun i hi=>(H8.1 hi).1) (by omega) hsm A m c hm hr).mono ?_;rintro e w' ⟨a1,a2,a3,G',a4,a5⟩;exact⟨a1,a2,fun _=>a3,G',a4,(hI.meet a5).later (by omega),fun _=>by rw[hm];exact a5⟩
 ·refine(Tr hV hB s.vote hv _ (Gq _ _) (fun i hi=>(H8.1 hi).1) (by omega) hsm (by rw[hI.inv.kn,hI.inv.sgn]) (fun m x hm=>by have:=hI.inv.slen hm;omega) A m c hm hr).mono ?_;rintro e w' ⟨a1,a2,⟨_,a4,a5⟩|⟨a3,a4,G',a5,a6⟩⟩
  ·exact⟨a1,a2,.inl ⟨a4,a5⟩⟩
  ·exact⟨a1,a2,.inr ⟨a4,G',a5,hI.lie a3 a6,fun h2=>by omega⟩⟩
 ·rintro e w' ⟨hb,hK,⟨rfl,G1,G',⟨h1,h2⟩,h3,h4⟩|⟨rfl,h2,_,h4⟩⟩
  ·exact⟨⟨0,rfl⟩,hb,hK,G',h4,h1.dcd h3,fun hk=>⟨G1,h2 hk,h3⟩⟩
  ·exact⟨⟨1,rfl⟩,hb,hK,G,h4,hI.later (by omega),fun hk=>absurd hk h2⟩
end
theorem PM(p:Value):Instr.loadAt 48 p=CU 48 p:=rfl
theorem SL(b o:Nat)(w:World):(CU 48 (.pointer (some ⟨b,o,none⟩))).run prog w=DB 48 b o w (AK w b o 25):=CZ _ 25 b o w _ underlying48 rfl (by kernel_rfl)
theorem PN(p:Value):Instr.loadAt 26 p=CU 26 p:=rfl
theorem SM(b o:Nat)(w:World):(CU 26 (.pointer (some ⟨b,o,none⟩))).run prog w=DB 26 b o w (AK w b o 11):=CZ _ 11 b o w _ underlying26 rfl (by kernel_rfl)
attribute [local go_sem ↓] Go.wp_at_zero Go.wp_at_succ Aq Au Av Aw PM PN
attribute [local go_sem] BE BL BM BN SL SM AR AX AU
abbrev stc(s:Stp):List Value:=s.cells.toList
theorem Lu(l:List Stp):∀s∈l,(stc s).length=25:=fun _ _=>rfl
theorem T4(s:Stp){u:Value}(h:u∈s.cells.toList):u.oneCell'=true:=by
 simp at h;rcases h with h|h|h|h|h|h|h|h|h|h|h|h|h|h|h|h|h|h|h|h|h|h|h|h|h <;> (subst h;rfl)
theorem SN:(prog.info? 48).map (·.size)=some 25:=by kernel_rfl
theorem Rd.stpRow{w:World}{B' b o:Nat}{l:List Stp}{k:Nat}{s:Stp}(h:Rd w B' (some ⟨b,o,none⟩) (l.flatMap stc))(hk:l[k]? =some s):AK w b (o+k*25) 25=some s.cells:=by
 have xp:=(AF.1 hk).1;rcases h with h|⟨b',o',e,hb,hc⟩
 ·have:=AY stc 25 l (Lu l);rw[h]at this;simp at this;omega
 ·injection e with e
  injection e with e1 e2
  subst e1;subst e2;refine By (fun j u hu=>?_) rfl;have hj:j<25:=by
   have:=(AF.1 hu).1;simpa using this
  rw[Nat.add_assoc];refine hc _ u ?_;rw[CN stc 25 l (Lu l) k j s hk hj,<-hu]
theorem SO(n:Nat)(hn:1<=n/\n<=7)(T0 L0:Int)(sd:Nm)(A:Option Addr)(k c:Nat)(l:List Stp)(w:World)(hk:l.length=k)(hk60:k<=60)(hr:Rd w w.heap.size A (l.flatMap stc))(hok:∀s∈l,s.vote.ok):Calls prog 14 #[(Cfg.mk (n:Int) T0 L0 sd).val,.slice A k c] w fun e w'=>∃g G Bs,e= .returned (At g)/\Wx w w'/\w.heap.size<=Bs/\Bs<=w'.heap.size/\Ax Bs w' g G/\PlI n T0 L0 sd 60 G:=by
 obtain⟨C,hC⟩:=Wr (Cfg.mk (n:Int) T0 L0 sd);obtain⟨w1,hw1⟩:=Wr (w.alloc (.cells C.cells 26));have hb1:Wx w w1:=by rw[hw1];exact(AC _ _).alloc (AB _) _
 obtain⟨q,hq⟩:=Wr w.heap.size;have hQ1:Blk w1 q 26 C.cells:=by rw[hw1,hq];exact Blk.new w _ _
 have x1:AK w1 q 0 11=some C.cells:=hQ1.row 11 rfl;have hr1:Rd w1 w1.heap.size A (l.flatMap stc):=(hr.below hb1).more hb1.size;obtain⟨Bs,hBs⟩:=Wr w1.heap.size;have hwB:w.heap.size<=Bs:=by rw[hBs];exact hb1.size
 have zW:Hid (Calls prog 27 #[C.val] w1 fun e w'=>∃g G,e= .returned (.tuple #[At g,.int .i64 0])/\Below Bs w1 w'/\Ax Bs w' g G/\PlI n T0 L0 sd 0 G):=by
  rw[hBs,hC];refine(PD n hn T0 L0 sd w1).mono ?_;rintro e w' ⟨g,G,a1,a2,a3,a4⟩;exact⟨g,G,a1,a2,a3,PlI.new a4 hn⟩
 have HR:=AA hr1;have HK:=AA hk;have HOk:=AA hok;have HW1:=AA hw1;have HQ:=AA hq;have HBs:=AA hBs;have hB1:Bs<=w1.heap.size:=by omega
 rw[<-hC];clear hC hw1 hq hQ1 hr hr1 hk hok hBs;go_enter func14,ntmps14;go_upto_region 1 with fail
 simp only[<-HW1.out,<-HQ.out];go_upto_region 2 with(go_at_call 27;refine zW.out.mono ?_;rintro en w2 ⟨g,G,rfl,hb2,hG2,hI2⟩;have HG2:=AA hG2;have HI2:=AA hI2;clear hG2 hI2)
 have zL:Bs<=w2.heap.size:=AG hB1 hb2.size;clear x1 zW;go_wp2
 go_loopw [18] (fun iv wr=>∃(j:Nat) (G':GmS),iv= .int .i64 (j:Int)/\j<=k/\Ax Bs wr g G'/\PlI n T0 L0 sd j G'/\Below Bs w1 wr) (fun iv _=>k-(intOf iv).toNat)
 case atStart=>exact⟨0,G,rfl,Nat.zero_le _,HG2.out,HI2.out,hb2⟩
 case round=>
  clear HG2 HI2 hb2 zL;obtain⟨j,G4,rfl,hjk,hG4,hI4,hb4⟩:=hrel;have yS:Bs<=wr.heap.size:=AG hB1 hb4.size;by_cases hj:j<k
  ·have dj:=Wu (show j<k by omega)
   obtain⟨x,hx⟩:∃x,l[j]? =some x:=⟨_,AE (by rw[HK.out];exact hj)⟩;obtain⟨b0,o,rfl,hb,xH⟩:=HR.out.cells (by intro e;have:=AY stc 25 l (Lu l);rw[e,HK.out]at this;simp at this;omega);clear xH hb;have hR4:Rd wr Bs (some ⟨b0,o,none⟩) (l.flatMap stc):=by
    have:=HR.out;rw[<-HBs.out]at this;exact this.below hb4
   have x2:AK wr b0 (o+j*25) 25=some x.cells:=hR4.stpRow hx;have hxo:=HOk.out x (AN hx);have HG4:=AA hG4;have HI4:=AA hI4;clear hx hR4 hG4 hI4;go_upto_region 7 with(refine AJ rfl 48 (.tmp 8) (.tmp 21) rfl wr.heap.size x.cells rfl rfl 48 (Stp.mk 0 0 0 ⟨0,0,0,0,0,0,Nm.zero,Nm.zero⟩).cells (Blk.new wr _ _) (by rfl) SN (fun u hu=>T4 x hu) ?_;intro w5 hB5 hg5 yi)
   have xf:Wx wr w5:=((AC _ wr).alloc (AB _) _).grown hg5 (by simp) (Wt (AB _));obtain⟨z,hz⟩:=Wr wr.heap.size;rw[<-hz]at hB5 ⊢;have x3:AK w5 z 0 25=some x.cells:=hB5.row 25 rfl;have HDo:=AA (WN x hxo (HG4.out.below xf) (AG yS xf.size) HI4.out (by omega));clear hB5 hg5 yi x2 hz;try go_frame
   go_wp2_with (go_at_call 22;refine HDo.out.mono ?_;rintro en w6 ⟨⟨ev,rfl⟩,hb6,_,G6,hG6,hI6,_⟩;have HG6:=AA hG6;have HI6:=AA hI6;clear hG6 hI6)
   go_roundw
   case rel=>exact⟨j+1,G6,by go_num,by omega,HG6.out,HI6.out,(hb4.trans (xf.mono yS)).trans hb6⟩
   case measure=>simp[intOf];omega
  ·have dj:=Wv (show k<=j by omega)
   have HG5:=AA hG4;have HI5:=AA hI4;clear hG4 hI4;go_wp2;go_ret;exact⟨g,G4,Bs,rfl,hb1.trans (hb4.mono hwB),hwB,yS,HG5.out,HI5.out.later (by omega)⟩
end
section
open Go.RowKit
attribute [local go_sem ↓] Go.wp_at_zero Go.wp_at_succ Aq Au Av Aw
attribute [local go_sem] BE BL BM BN AR AX AU
def T5(n:Nat)(w:World)(iv:Value)(wr:World):Prop:=∃i:Nat,iv= .int .i64 (i:Int)/\i<=n/\Wx w wr
theorem T6(A:Option Addr)(n c:Nat)(w:World):Calls prog 11 #[.slice A n c] w fun e w'=>e= .returned (.bool (decide (n<=60)))/\w'=w:=by
 obtain⟨d,hd⟩:=Wr (decide (n<=60));have d1:decide ((n:Int)<=60)=d:=by rw[hd];exact decide_eq_decide.2 (by omega)
 rw[<-hd];clear hd;go_enter func11,ntmps11;go_wp2;go_ret;exact⟨rfl,rfl⟩
theorem Mu(C:Cfg)(w:World):Calls prog 12 #[C.val] w fun e w'=>e= .returned (.bool (decide (1<=C.n/\C.n<=7)))/\Wx w w':=by
 obtain⟨w1,hw1⟩:=Wr (w.alloc (.cells C.cells 26));have hb1:Wx w w1:=by rw[hw1];exact(AC _ _).alloc (AB _) _
 obtain⟨q,hq⟩:=Wr w.heap.size;have hQ1:Blk w1 q 26 C.cells:=by rw[hw1,hq];exact Blk.new w _ _
 obtain⟨n,hn⟩:=Wr C.n;have x1:w1.cell? ⟨q,0,none⟩=some (.int .i64 n):=by rw[hn];exact hQ1.cell 0
 rw[<-hn];have HW1:=AA hw1;have HQ:=AA hq;clear hw1 hq hQ1 hn;obtain⟨a,ha⟩:=Wr (decide (1<=n));obtain⟨b,hb⟩:=Wr (decide (n<=7));have hab:decide (1<=n/\n<=7)=(a&&b):=by rw[ha,hb];exact Bool.decide_and _ _
 rw[hab];replace ha:=ha.symm;replace hb:=hb.symm;clear hab;go_enter func12,ntmps12;go_upto_region 1 with fail
 simp only[<-HW1.out,<-HQ.out];cases a with
 |true=>
  go_wp2;go_ret;exact⟨rfl,hb1⟩
 |false=>
  go_wp2;go_ret;exact⟨rfl,hb1⟩
section
variable {Bs g:Nat}{w:World}{G:GmS}
theorem N5(h:Ax Bs w g G):Calls prog 16 #[At g] w fun e w'=>e= .returned (.int .i64 G.hon)/\w'=w:=by
 have y1:w.cell? ⟨g,1,none⟩=some (.int .i64 G.hon):=h.blk.cell 1;clear h;go_enter func16,ntmps16;go_wp2;go_ret;exact⟨rfl,rfl⟩
end
abbrev sgN(v:Vt):Sg:=⟨v,[],none,0⟩
theorem T7{o:Oper}{a:Act}(v:Vt)(s:Operand)(ho:o.op= .build 62 #[(0,s)])(hs:a.eval s= .agg v.cells)(w:World):(execOp a.eval o).run prog w= .ok (.value (Sg.mk v [] none 0).val) w:=by
 unfold Sg.val;rw[OJ];unfold execOp;rw[ho];simp only[List.map_toArray,List.map_cons,List.map_nil,hs];go_simp
theorem N6{Bs g m:Nat}{w:World}{G:GmS}{y:Value×List Vt}(h:Ax Bs w g G)(hm:G.sg[m]? =some y)(hv:∀v∈y.2,v.ok)(hsm:y.2.length<=1000000):Calls prog 25 #[At g,.int .i64 (m:Int)] w (El w (EY (y.2.map fun v=>(v,([]:List UInt8))))):=by
 obtain⟨sb,sc,hsv,x2,_,hmn⟩:=CT (i:=m) (u:=y.1) h.srow (by rw[AV,hm];rfl);have x1:w.cell? ⟨g,12,none⟩=some (.slice (some ⟨sb,0,none⟩) G.sg.length sc):=by rw[<-hsv];exact h.blk.cell 12
 obtain⟨l,hl⟩:=Wr (y.2);have hR:=h.sgs m y hm;rw[<-hl]at hv hsm hR ⊢;obtain⟨A,c,e,hR⟩:=Bg hR;rw[e]at x2;obtain⟨k,hk⟩:=Ws l.length;obtain⟨n,hn⟩:=Wr G.sg.length;rw[<-hn]at x1 hmn;rw[hk]at x2 hsm;have m0:decide ((m:Int)<0)=false:=by simp
 have m1:decide ((n:Int)<=(m:Int))=false:=by simp;omega
 have m2:decide (n<=m)=false:=by simp;omega
 have HR:=AA hR;have HK:=AA hk;have HV:=AA hv;clear h hm hsv hl hv hR e hk hn;go_enter func25,ntmps25;go_wp2
 go_loopw [5,31] (fun v iv wr=>∃i:Nat,iv= .int .i64 (i:Int)/\i<=k/\wr.ownsRow w.heap.size 62 23 v i (((l.take i).map sgN).flatMap sgc)/\Wx w wr) (fun _ iv _=>k-(intOf iv).toNat)
 case atStart=>exact⟨0,rfl,Nat.zero_le _,⟨by simp,.inl ⟨rfl,rfl⟩⟩,AC _ _⟩
 case round=>
  obtain⟨i,rfl,hik,xB,hb⟩:=hrel;have xF:=AA xB;clear xB;by_cases hi:i<k
  ·have di:=Wu (show i<k by omega)
   obtain⟨x,hx⟩:∃x,l[i]? =some x:=⟨_,AE (by rw[HK.out];exact hi)⟩;obtain⟨b0,o,rfl,hb0,_⟩:=HR.out.cells (by intro e;have:=AY vtc 22 l (CI l);rw[e,HK.out]at this;simp at this;omega);have x3:AK wr b0 (o+i*22) 22=some x.cells:=(HR.out.below hb).voteRow hx;have HNx:Hid ((l.take (i+1)).map sgN=(l.take i).map sgN++[sgN x]):=by unfold Hid;rw[Ah,hx,BF,Ad];rfl
   clear hx hb0;go_upto_region 7 with(refine AJ rfl 46 (.tmp 7) (.tmp 34) rfl wr.heap.size x.cells rfl rfl 46 Bk.cells (Blk.new wr _ _) (by rfl) (by kernel_rfl) (fun u hu=>BH x hu) ?_;intro w4 hB4 hg4 xb)
   have hb4:Wx w w4:=(hb.alloc hb.size _).grown hg4 (AG hb.size (by simp)) (Wt hb.size);have xJ:Hid (w4.ownsRow w.heap.size 62 23 u5 i (((l.take i).map sgN).flatMap sgc)):=Ba (xF.out.alloc _) hg4 (fun k hk=>by
    injection hk with hk
    subst hk;right;intro e;have:=(xF.out.lt _ e).2;omega)
   obtain⟨z,hz⟩:=Wr wr.heap.size;rw[<-hz]at hB4 ⊢;have x4:AK w4 z 0 22=some x.cells:=hB4.row 22 rfl;clear hB4 hg4 xb x3 hz xF hb;try go_frame
   have hsc:(sgN x).cells.size=23:=Sg.size_cells _;go_wp2_with ((first
    |(refine Great.wpList_readTo rfl (some 37) rfl (.agg (sgN x).cells) (T7 x (.tmp 36) rfl rfl _) ?_)
    |(refine BQ rfl 50 62 (.tmp 37) rfl (sgN x).cells rfl underlying50 (by rw[hsc];kernel_rfl) (by rw[hsc];decide) (by rw[hsc];decide) ?_)
    |(at_builtin;refine Ar rfl (.tmp 35) (.tmp 38) _ rfl w.heap.size 62 (.agg BI) 23 88 underlying50 DJ rfl (by decide) u5 i (((l.take i).map sgN).flatMap sgc) rfl ?r0 (w4.heap.size+1) (some ⟨w4.heap.size,0,none⟩) 1 1 (sgc (sgN x)) rfl ?r1 ?r2 ?r3 ?r4 ?r5 ?r6 ?_)))
   case r0=>exact xJ.out.alloc _
   case r1=>exact(C0 [sgN x]) _ (AM.2 rfl)
   case r2=>exact Rd.mk (by omega) (fun j u hu=>by rw[Nat.zero_add,(Blk.new w4 _ _).cell];simpa using hu)
   case r3=>exact fun u hu=>(sgN x).one u hu
   case r4=>omega
   case r5=>unfold maxLen;omega
   case r6=>have:=hb4.size;simp;omega
   intro v7 w7 xE hg7 xo;have hb7:=BO (hb4.alloc hb4.size _) (xJ.out.alloc _) hg7;have xO:Hid (w7.ownsRow w.heap.size 62 23 v7 (i+1) (((l.take (i+1)).map sgN).flatMap sgc)):=by
    unfold Hid;rw[HNx.out,Af];simpa using xE
   clear xE hg7 xo x4;go_wp2;go_roundw
   case rel=>exact⟨i+1,by go_num,by omega,xO.out,hb7⟩
   case measure=>simp[intOf];omega
  ·have di:=Wv (show k<=i by omega)
   have e:l.take i=l:=AT (by rw[HK.out];omega);have hHE:i=k:=by omega
   obtain⟨A5,c5,rfl,hR5⟩:=Bg xF.out;rw[e]at hR5;have HVt:=AA (JQ A5 i c5 (l.map sgN) wr (by rw[Ab,HK.out,hHE]) hR5 (fun s hs=>by
    obtain⟨v,hv,rfl⟩:=List.mem_map.1 hs;exact⟨⟨HV.out v hv,.inl rfl,by show 0<=_;omega⟩,by show 0<=0;omega,by show 0<=maxLen;unfold maxLen;omega⟩) (by omega))
   rw[show(l.map sgN).map Sg.vs=l.map fun v=>(v,([]:List UInt8))by rw[List.map_map];rfl]at HVt;clear e hHE hR5;go_wp2_with (go_at_call 47;refine HVt.out.mono ?_;rintro en w8 ⟨v8,rfl,hb8,xV⟩;have HO8:=AA xV;clear xV)
   go_ret;exact⟨v8,rfl,hb.trans (hb8.mono hb.size),BS HO8.out hb.size⟩
end
end Go.Proofs.YtadllffeoibelaaGreat
