/-
  What these parts of the proof come to, functions walked and plain laws: AccL, GmPl. No condition.
-/
import Derived.Test.YtadllffeoibelaaGreatS26
import Derived.Test.YtadllffeoibelaaGreatS11
import Derived.Test.YtadllffeoibelaaGreatS43
import Derived.Test.YtadllffeoibelaaGreatS45
import Derived.Test.YtadllffeoibelaaGreatS46
import Derived.Test.YtadllffeoibelaaGreatS47
namespace Go.Proofs.YtadllffeoibelaaGreat
set_option maxRecDepth 100000
set_option maxHeartbeats 32000000
set_option linter.all false
section
open Go.RowKit
theorem FK(M:Int)(i:Nat)(hi:i<10):(BitVec.ofInt 64 M).getLsbD i=(xOf M).testBit i:=by
 have e:xOf M=(BitVec.ofInt 64 M).toNat%2^10:=by
  rw[BitVec.toNat_ofInt];unfold xOf;omega
 rw[e,Nat.testBit_mod_two_pow,decide_eq_true hi,Bool.true_and];rfl
theorem O6(a M:Int)(h:bits .andNot .i64 a M=0):InN (xOf a) (xOf M):=by
 have h1:IntKind.i64.wrap ((BitVec.ofInt 64 a&&& ~~~BitVec.ofInt 64 M).toNat:Int)=0:=h;have h2:(BitVec.ofInt 64 a&&& ~~~BitVec.ofInt 64 M)=0#64:=by
  have hlt:=(BitVec.ofInt 64 a&&& ~~~BitVec.ofInt 64 M).isLt;rw[IntKind.wrap_i64]at h1;apply BitVec.eq_of_toNat_eq;simp only[BitVec.toNat_ofNat];omega
 intro i hi hb;have h3:=congrArg (fun x:BitVec 64=>x.getLsbD i) h2;simp only[BitVec.getLsbD_and,BitVec.getLsbD_not,BitVec.getLsbD_zero,FK a i hi,FK M i hi,hb]at h3;have h64:decide (i<64)=true:=by simp;omega
 rw[h64]at h3;simpa using h3
theorem Fh{a b:Vt}(h:CQ a b=true):Jq a b:=by
 unfold CQ at h;rw[Bool.and_eq_true,decide_eq_true_eq,decide_eq_true_eq]at h;exact h
theorem Ko{M:Int}{q:Nat}{v:Vt}{C:List Vt}{pr:Vt→Bool}(h:D4 M q v C pr=true):∃S,InN S (xOf M)∧At S 10=q∧∀i,i<10→S.testBit i=true→∃w∈C,w.signer=(i:Int)∧pr w=true:=by
 unfold D4 at h;rw[Bool.and_eq_true,Bool.and_eq_true,decide_eq_true_eq,decide_eq_true_eq,List.all_eq_true]at h;refine⟨xOf v.support,O6 _ _ h.1,h.2.1,fun i hi hb=>?_⟩;have h1:=h.2.2 i (GM.2 ⟨hi,hb⟩);obtain⟨w,hw,h2⟩:=List.any_eq_true.1 h1;rw[Bool.and_eq_true,decide_eq_true_eq]at h2;exact⟨w,hw,h2.1,h2.2⟩
theorem N1{M:Int}{p:Nm}{s:Int}{l O:List Vt}(h:Py M p s l O)(hx:0<At (xOf M) 10):MS (xOf M) p s l O where
 mem v hv:=(h.2 v hv).1
 ok v hv:=⟨(h.2 v hv).2.1.1,(h.2 v hv).2.2.1,(h.2 v hv).2.1.2.2⟩
 prev v hv hk hr:=by
  obtain⟨k,hkv⟩:=List.mem_iff_getElem?.1 hv;have ha:=h.1 k v hkv;unfold Cq at ha;rw[if_neg (by omega),eq_comm,Bool.and_eq_true]at ha;have hb:=ha.2;unfold Dc at hb;rw[if_neg (by omega),if_neg (by omega),if_pos hk]at hb;unfold Fq at hb;rw[if_neg (by omega),Bool.or_eq_true,Bool.and_eq_true,Bool.and_eq_true]at hb;have hsub:∀w,w∈O.take k→w∈O:=fun w hw=>List.mem_of_mem_take hw
  rcases hb with⟨h1,h2⟩|⟨h1,h2⟩
  ·obtain⟨S,hS,hq,hw⟩:=Ko h1;refine⟨⟨S,hS,by omega,fun i hi hb=>?_⟩,?_⟩
   ·obtain⟨w,hw1,hw2,hw3⟩:=hw i hi hb;unfold NZ KU Jf at hw3;simp only[Bool.or_eq_true,Bool.and_eq_true,decide_eq_true_eq]at hw3;rcases hw3 with⟨e1,e2,e3⟩|⟨e1,e2,e3⟩
    ·exact⟨w,hsub w hw1,hw2,e1,e2,.inl (Fh e3)⟩
    ·exact⟨w,hsub w hw1,hw2,e1,e2,.inr e3⟩
   ·obtain⟨w,hw1,hw2⟩:=List.any_eq_true.1 h2;unfold pIn KU at hw2;simp only[Bool.and_eq_true,decide_eq_true_eq]at hw2;exact⟨w,hsub w hw1,hw2.2.2.1,Fh hw2.2.2.2,.inl hw2.2.1⟩
  ·obtain⟨S,hS,hq,hw⟩:=Ko h1;refine⟨⟨S,hS,by omega,fun i hi hb=>?_⟩,?_⟩
   ·obtain⟨w,hw1,hw2,hw3⟩:=hw i hi hb;unfold Jf at hw3;simp only[Bool.and_eq_true,decide_eq_true_eq]at hw3;exact⟨w,hsub w hw1,hw2,hw3.1,hw3.2.1,.inr hw3.2.2⟩
   ·obtain⟨w,hw1,hw2⟩:=List.any_eq_true.1 h2;unfold J1 at hw2;simp only[Bool.and_eq_true,decide_eq_true_eq]at hw2;exact⟨w,hsub w hw1,hw2.2.1,Fh hw2.2.2,.inr hw2.1⟩
 prec v hv hk hc:=by
  obtain⟨k,hkv⟩:=List.mem_iff_getElem?.1 hv;have ha:=h.1 k v hkv;unfold Cq at ha;rw[if_neg (fun hh=>hc hh.2),eq_comm,Bool.and_eq_true]at ha;have hb:=ha.2;unfold Dc at hb;rw[if_neg (by omega),if_neg (by omega),if_neg (by omega)]at hb;obtain⟨S,hS,hq,hw⟩:=Ko hb;have hp:=IL hx;obtain⟨i,hi,ht⟩:=GK 10 (show 0<At S 10 by omega);obtain⟨w,hw1,hw2,hw3⟩:=hw i hi ht;unfold Iz G9 at hw3;simp only[Bool.and_eq_true,decide_eq_true_eq]at hw3;exact⟨w,List.mem_of_mem_take hw1,hw3.1.1,hw3.1.2,Fh hw3.2⟩
end
section

def SD(M:Int)(par:Nm)(P:PrS):Prop:=P.dec.length≤10∧(P.dd=true→∃(l:List Vt) (L:List Oc),(∀v∈l,v∈P.D)∧Oy M par l L true∧P.dec=L.map Eo)
theorem SD.more{M:Int}{par:Nm}{P P':PrS}(h:SD M par P)(h1:P'.dec=P.dec)(h2:P'.dd=P.dd)(h3:∀v∈P.D,v∈P'.D):SD M par P':=by
 refine⟨by rw[h1];exact h.1,fun hd=>?_⟩;obtain⟨l,L,a,b,c⟩:=h.2 (by rw[←h2];exact hd);exact⟨l,L,fun v hv=>h3 v (a v hv),b,by rw[h1];exact c⟩
structure PlI (n:Nat)(T0 L0:Int)(s:Nm)(T:Nat)(G:GmS):Prop where
 inv:JI n T G
 M:G.M=((2^n:Nat):Int)-1
 hon:G.hon=SB G.M T0 L0
 par:G.par=L5 s
 sd:G.ks.map (·.seed)=(List.range n).map (J9 s)
 dec:∀(i b:Nat) (P:PrS),G.ps[i]? =some (b,P)→SD G.M G.par P
theorem Qt(y:BitVec 64):xOf (IntKind.i64.wrap (y.toNat:Int))=y.toNat%2^10:=by
 unfold xOf;rw[IntKind.wrap_i64];have:=y.isLt;omega
theorem JL(y:BitVec 64)(i:Nat)(hi:i<10):(xOf (IntKind.i64.wrap (y.toNat:Int))).testBit i=y.getLsbD i:=by
 rw[Qt,Nat.testBit_mod_two_pow,decide_eq_true hi,Bool.true_and];rfl
theorem N2(a b:Int)(i:Nat)(hi:i<10):(xOf (bits .and .i64 a b)).testBit i=((xOf a).testBit i&&(xOf b).testBit i):=by
 rw[show bits .and .i64 a b=IntKind.i64.wrap ((BitVec.ofInt 64 a&&& BitVec.ofInt 64 b).toNat:Int)from rfl,JL _ i hi,BitVec.getLsbD_and,FK a i hi,FK b i hi]
theorem TL(a b:Int)(i:Nat)(hi:i<10):(xOf (bits .or .i64 a b)).testBit i=((xOf a).testBit i||(xOf b).testBit i):=by
 rw[show bits .or .i64 a b=IntKind.i64.wrap ((BitVec.ofInt 64 a|||BitVec.ofInt 64 b).toNat:Int)from rfl,JL _ i hi,BitVec.getLsbD_or,FK a i hi,FK b i hi]
theorem JM(a b:Int)(i:Nat)(hi:i<10):(xOf (bits .andNot .i64 a b)).testBit i=((xOf a).testBit i&&!(xOf b).testBit i):=by
 rw[show bits .andNot .i64 a b=IntKind.i64.wrap ((BitVec.ofInt 64 a&&& ~~~BitVec.ofInt 64 b).toNat:Int)from rfl,JL _ i hi,BitVec.getLsbD_and,BitVec.getLsbD_not,FK a i hi,FK b i hi,decide_eq_true (show i<64 by omega),Bool.true_and]
theorem SE{n:Nat}(hn:n≤7)(i:Nat):(xOf (((2^n:Nat):Int)-1)).testBit i=decide (i<n):=by
 have e:xOf (((2^n:Nat):Int)-1)=2^n-1:=by
  have h1:2^n≤2^7:=Nat.pow_le_pow_right (by omega) hn;have h2:0<2^n:=Nat.two_pow_pos n;unfold xOf;omega
 rw[e,Nat.testBit_two_pow_sub_one]
theorem SF{s n:Nat}(hn:n≤10)(h:∀i,n≤i→i<10→s.testBit i=false):CH s 10=CH s n:=by
 have key:∀d,n+d≤10→CH s (n+d)=CH s n:=by
  intro d
  induction d with
  |zero=>intro _;rfl
  |succ d ih=>
   intro hd;rw[show n+(d+1)=(n+d)+1 from rfl,ER (h (n+d) (by omega) (by omega)),ih (by omega)]
 have:=key (10-n) (by omega);rwa[show n+(10-n)=10 by omega]at this
theorem JN{l:List VS}{v:Vt}:v∈(CD l).map (·.1)↔v∈l.map (·.1):=DB l v
theorem PrS.D_sub{P P':PrS}{X:List VS}(h:P'.L.map Sg.vs=CD (P.L.map Sg.vs++X)):∀v∈P.D,v∈P'.D:=fun v hv=>by
 rw[DB]at hv ⊢;rw[h,JN,Ac];exact BS _ hv
section
variable {n T:Nat}{T0 L0:Int}{s:Nm}{G G':GmS}
theorem PlI.good(h:PlI n T0 L0 s T G)(hT:T≤100):GoodG G:=by
 refine⟨by have:=h.inv.psn;have:=h.inv.n1;omega,fun i b P hi=>⟨by have:=h.inv.len hi;omega,fun x hx=>(h.inv.held i b P hi x hx).1⟩⟩
theorem PlI.new(h:M5 n T0 L0 s G)(hn:1≤n∧n≤7):PlI n T0 L0 s 0 G:=by
 obtain⟨ms,hms,hps⟩:=h.ps;have hM:=h.M;have hMb:∀i,(xOf G.M).testBit i=decide (i<n):=fun i=>by rw[hM];exact SE hn.2 i
 have hid:CH (xOf (bits .and .i64 G.M T0)) 10=CH (xOf (bits .and .i64 G.M T0)) n:=SF (by omega) (fun i h1 h2=>by
  rw[N2 _ _ i h2,hMb,decide_eq_false (by omega),Bool.false_and])
 have hgl:G.ps.length=ms.length:=by
  have:=congrArg List.length hps;rwa[AY,AY,Ff]at this
 have hml:ms.length=n+(CH (xOf (bits .and .i64 G.M T0)) n).length:=by rw[hms,hid,AI,List.length_range]
 have hp:∀(i b:Nat) (P:PrS),G.ps[i]? =some (b,P)→∃(m:Nat) (y:Nm),P=Ec (m,y)∧ms[i]? =some m:=fun i b P hi=>by
  have h1:=congrArg (fun l=>l[i]?) hps;simp only[AU,hi,Option.map_some]at h1;obtain⟨⟨m,y⟩,h2,h3⟩:=Option.map_eq_some_iff.1 h1.symm;exact⟨m,y,h3.symm,(Ny h2).1⟩
 have hm:∀i m,ms[i]? =some m→m<n∧(i<n→m=i)∧(n≤i→G.hb m=false):=fun i m hi=>by
  rw[hms,List.getElem?_append,List.length_range]at hi;by_cases hin:i<n
  ·rw[if_pos hin,List.getElem?_range hin]at hi;injection hi with hi
   exact⟨by omega,fun _=>hi.symm,fun _=>by omega⟩
  ·rw[if_neg hin,hid]at hi;obtain⟨h1,h2⟩:=GM.1 (AM hi);rw[N2 _ _ m (by omega),Bool.and_eq_true]at h2;refine⟨h1,fun h=>absurd h hin,fun _=>?_⟩;show(xOf G.hon).testBit m=false;rw[h.hon,JM _ _ m (by omega),TL _ _ m (by omega),h2.2,Bool.true_or];simp
 have hsg:∀(m:Nat) (y:Value×List Vt),G.sg[m]? =some y→y.2=[]:=fun m y hm=>by
  rw[h.sg]at hm;rw[List.getElem?_replicate]at hm;split at hm
  ·injection hm with hm
   rw[←hm]
  ·cases hm
 refine⟨⟨⟨hn.1,by omega⟩,?_,?_,?_,?_,?_,?_,?_,?_,?_,?_,?_⟩,hM,h.hon,h.par,h.ks,?_⟩
 ·have:=congrArg List.length h.ks;rwa[AY,AY,List.length_range]at this
 ·rw[h.sg,List.length_replicate]
 ·have:=E7 (xOf (bits .and .i64 G.M T0)) n;omega
 ·intro i b P hi;obtain⟨m,y,rfl,h2⟩:=hp i b P hi;exact hm i m h2
 ·intro i b P hi;obtain⟨m,y,rfl,h2⟩:=hp i b P hi;exact⟨by show 0≤1024;omega,by show(0:Int)≤0;omega,by show(0:Int)≤((0:Nat):Int);omega⟩
 ·intro i b P hi;obtain⟨m,y,rfl,h2⟩:=hp i b P hi;exact Ez rfl
 ·intro i b P hi x hx;obtain⟨m,y,rfl,h2⟩:=hp i b P hi;cases hx
 ·intro m y hy v hv;rw[hsg m y hy]at hv;cases hv
 ·intro m b P y _ _ hy v hv;rw[hsg m y hy]at hv;cases hv
 ·intro m y _ hy u hu;rw[hsg m y hy]at hu;cases hu
 ·rw[h.sg];simp
 ·intro i b P hi;obtain⟨m,y,rfl,h2⟩:=hp i b P hi;exact⟨by show 0≤10;omega,fun h=>by cases h⟩
theorem PlI.dcd(h:PlI n T0 L0 s T G)(hd:C4 G.ps.length G G'):PlI n T0 L0 s T G':=by
 obtain⟨ps',rfl,hl,hx⟩:=hd;have hx':∀(i b:Nat) (P':PrS),ps'[i]? =some (b,P')→∃P,G.ps[i]? =some (b,P)∧UF G P P':=fun i b P' hi=>by
  obtain⟨P,h1,h2⟩:=hx i b P' hi;rw[if_pos (AG.1 h1).1]at h2;exact⟨P,h1,h2⟩
 refine⟨h.inv.share (AB _) rfl rfl rfl hl (fun i b P' hi=>?_),h.M,h.hon,h.par,h.sd,fun i b P' hi=>?_⟩
 ·obtain⟨P,h1,v,d,ok,rfl,_⟩:=hx' i b P' hi;have hf:=h.inv.leaf i b P h1;exact⟨b,P,h1,rfl,rfl,hf.2.1,hf.2.2,h.inv.can i b P h1,fun v hv=>hv,h.inv.held i b P h1⟩
 ·obtain⟨P,h1,v,d,ok,he,⟨_,rfl⟩|⟨_,L,hL,hD,hd⟩⟩:=hx' i b P' hi
  ·exact h.dec i b P' h1
  ·subst he;refine⟨by show d.length≤10;rw[hd,AY];exact hL,fun ho=>?_⟩;have ho:ok=true:=ho;subst ho;exact⟨P.D,L,fun v hv=>hv,hD,hd⟩
theorem PlI.addTo{X:List VS}{idx:List Nat}{k:Nat}(h:PlI n T0 L0 s T G)(hX:∀x∈X,JH G.ks G.sg x)(ha:EC X idx k G G'):PlI n T0 L0 s T G':=by
 obtain⟨ps',rfl,hl,hx⟩:=ha;refine⟨h.inv.share (AB _) rfl rfl rfl hl (fun i b P' hi=>?_),h.M,h.hon,h.par,h.sd,fun i b P' hi=>?_⟩
 ·obtain⟨P,h1,⟨_,v,L,rfl,hL⟩|⟨_,rfl⟩⟩:=hx i b P' hi
  ·have hf:=h.inv.leaf i b P h1;refine⟨b,P,h1,rfl,rfl,hf.2.1,hf.2.2,by show CD (L.map Sg.vs)=L.map Sg.vs;rw[hL,Hg],PrS.D_sub (P':=P.more v L) hL,fun x hxm=>?_⟩;have hm:x.vs∈L.map Sg.vs:=List.mem_map_of_mem hxm;rw[hL]at hm;rcases AP.1 ((DT _).sub _ hm)with hm|hm
   ·obtain⟨y,hy,e⟩:=List.mem_map.1 hm;rw[←e];exact h.inv.held i b P h1 y hy
   ·exact hX _ hm
  ·have hf:=h.inv.leaf i b P' h1;exact⟨b,P',h1,rfl,rfl,hf.2.1,hf.2.2,h.inv.can i b P' h1,fun v hv=>hv,h.inv.held i b P' h1⟩
 ·obtain⟨P,h1,⟨_,v,L,rfl,hL⟩|⟨_,rfl⟩⟩:=hx i b P' hi
  ·exact(h.dec i b P h1).more rfl rfl (PrS.D_sub (P':=P.more v L) hL)
  ·exact h.dec i b P' h1
theorem PlI.meet{idx:List Nat}{k:Nat}(h:PlI n T0 L0 s T G)(ha:GA idx k G G'):PlI n T0 L0 s T G':=by
 refine h.addTo (fun x hx=>?_) ha;obtain⟨y,hy,rfl⟩:=List.mem_map.1 hx;obtain⟨i,_,hy⟩:=List.mem_flatMap.1 hy;unfold GmS.PL at hy;rw[List.getD_eq_getElem?_getD,AU]at hy;rcases hi:G.ps[i]? with _|⟨b,P⟩
 ·rw[hi]at hy;simp at hy
 ·rw[hi]at hy;exact h.inv.held i b P hi y hy
theorem PlI.later{T':Nat}(h:PlI n T0 L0 s T G)(hT:T≤T'):PlI n T0 L0 s T' G:=
 ⟨h.inv.share hT rfl rfl rfl rfl (fun i b P hi=>⟨b,P,hi,rfl,rfl,(h.inv.leaf i b P hi).2.1,by have:=(h.inv.leaf i b P hi).2.2;omega,h.inv.can i b P hi,fun v hv=>hv,h.inv.held i b P hi⟩),h.M,h.hon,h.par,h.sd,h.dec⟩
theorem PlI.lied{m:Nat}{v:Vt}{sv0 vs:Value}{sl:List Vt}(h:PlI n T0 L0 s T G)(hm:G.sg[m]? =some (sv0,sl))(hh:G.hb m=false)(hv:Ae v)(hs:v.signer=(m:Int)):PlI n T0 L0 s (T+1) (G.setS m vs (sl++[v])):=by
 have hI:=h.inv;have hne:∀m',G.hb m'=true→m≠m':=fun m' h1 e=>by rw[←e,hh]at h1;cases h1
 refine⟨⟨hI.n1,hI.kn,by show(G.sg.set _ _).length=n;rw[List.length_set];exact hI.sgn,hI.psn,hI.mem,fun i b P hi=>?_,hI.can,fun i b P hi x hx=>(hI.held i b P hi x hx).more hm,fun m' y hy u hu=>?_,fun m' b P y h1 h2 hy=>?_,fun m' y h1 hy=>?_,?_⟩,h.M,h.hon,h.par,h.sd,h.dec⟩
 ·have:=hI.leaf i b P hi;exact⟨this.1,this.2.1,by have:=this.2.2;omega⟩
 ·rcases Bv hy with⟨rfl,rfl⟩|⟨_,hy⟩
  ·rcases AP.1 hu with hu|hu
   ·exact hI.sgd _ _ hm u hu
   ·rw[AR.1 hu];exact⟨hv,hs⟩
  ·exact hI.sgd m' y hy u hu
 ·rcases Bv hy with⟨e,_⟩|⟨_,hy⟩
  ·exact absurd e (hne m' h1)
  ·exact hI.keep m' b P y h1 h2 hy
 ·rcases Bv hy with⟨e,_⟩|⟨_,hy⟩
  ·exact absurd e (hne m' h1)
  ·exact hI.uniq m' y h1 hy
 ·have e1:=IS (fun y:Value×List Vt=>y.2.length) G.sg m _ (vs,sl++[v]) hm;have:=hI.cnt;show((G.sg.set m (vs,sl++[v])).map fun y=>y.2.length).sum≤(G.ps.map fun p=>p.2.leaf).sum+(T+1);simp only[AI,List.length_singleton]at e1;omega
theorem PlI.lie{idx:List Nat}{v:Vt}(h:PlI n T0 L0 s T G)(hb:Qp G.ks.length G.hon v=false)(hl:UG idx v G G'):PlI n T0 L0 s (T+1) G':=by
 obtain⟨m,y,sv0,sl,vs,h1,h2,h3,h4⟩:=hl;unfold Qp at hb;rw[Bool.or_eq_false_iff,Bool.or_eq_false_iff,Bool.not_eq_false',decide_eq_true_eq,h1,Int.toNat_natCast]at hb;have hL:PlI n T0 L0 s (T+1) (G.setS m vs (sl++[v])):=h.lied h3 hb.2.2 hb.1 h1;refine hL.addTo (fun x hx=>?_) h4;rw[AR.1 hx];exact⟨hb.1,m,(vs,sl++[v]),y,1023,h1,List.getElem?_set_self (AG.1 h3).1,BU _ (AR.2 rfl),h2,by omega,rfl⟩
theorem PlI.actd{i b:Nat}{P:PrS}(h:PlI n T0 L0 s T G)(hi:G.ps[i]? =some (b,P)):PlI n T0 L0 s (T+1) (G.actd i b P):=by
 refine⟨h.inv.share (by omega) rfl rfl rfl (by show(G.ps.set _ _).length=_;rw[List.length_set]) (fun j b' P' hj=>?_),h.M,h.hon,h.par,h.sd,fun j b' P' hj=>?_⟩
 ·rcases Bv hj with⟨rfl,e⟩|⟨_,hj⟩
  ·injection e with e1 e2
   subst e1;subst e2;have hf:=h.inv.leaf i b' P hi;exact⟨b',P,hi,rfl,rfl,by show 0≤P.acts+1;omega,by show P.acts+1≤((T+1:Nat):Int);omega,h.inv.can i b' P hi,fun v hv=>hv,h.inv.held i b' P hi⟩
  ·have hf:=h.inv.leaf j b' P' hj;exact⟨b',P',hj,rfl,rfl,hf.2.1,by omega,h.inv.can j b' P' hj,fun v hv=>hv,h.inv.held j b' P' hj⟩
 ·rcases Bv hj with⟨rfl,e⟩|⟨_,hj⟩
  ·injection e with e1 e2
   subst e1;subst e2;exact(h.dec i b' P hi).more rfl rfl (fun v hv=>hv)
  ·exact h.dec j b' P' hj
theorem PlI.sgn{i:Nat}{v:Vt}(h:PlI n T0 L0 s T G)(hs:Lx i v G G')(hf:∀(b:Nat) (P:PrS),G.ps[i]? =some (b,P)→v.signer=(P.mem:Int)∧Nu P v):PlI n T0 L0 s T G':=by
 have hI:=h.inv.sgn' hs hf;obtain⟨b,P,k,sv0,sl,va,vs,L,h1,h2,h3,h4,h5,rfl⟩:=hs;refine⟨hI,h.M,h.hon,h.par,h.sd,fun j b' P' hj=>?_⟩;rcases Bv hj with⟨rfl,e⟩|⟨_,hj⟩
 ·injection e with e1 e2
  subst e1;subst e2;exact(h.dec i b' P h1).more rfl rfl (PrS.D_sub (P':=P.signd va L) h5)
 ·exact h.dec j b' P' hj
theorem M6{par pay:Nm}{P:PrS}(h:Fm par P.mem P.D=false):Nu P (Lw par P.mem pay):=fun u hu hk=>by
 obtain⟨h1,h2,_,h4,h5⟩:=hk;unfold Fm at h;rw[List.any_eq_false]at h;refine h u hu ?_;rw[show u.kind=1 from h1,show u.slot=(P.mem:Int)from h2,show u.signer=(P.mem:Int)from h4,show u.parent=par from h5];simp
theorem M1.noKey{i:Nat}{v:Vt}(h:PlI n T0 L0 s T G)(hd:M1 i G (some v)):∀(b:Nat) (P:PrS),G.ps[i]? =some (b,P)→v.signer=(P.mem:Int)∧Nu P v:=fun b P hi=>by
 obtain⟨b',P',h1,h2⟩:=hd;rw[hi]at h1;injection h1 with h1
 injection h1 with h1 h1'
 subst h1;subst h1';obtain⟨sl,_,_,d2,d3,d4,d5⟩:=h2.due (PrS.D_valid fun x hx=>(h.inv.held i b P hi x hx).1);refine⟨d3,fun u hu hk=>?_⟩;obtain⟨k1,k2,k3,k4,k5⟩:=hk;unfold owF at d5;rw[List.any_eq_false]at d5;refine d5 u (List.mem_filter.2 ⟨hu,?_⟩) ?_
 ·rw[k2,k5,d2,d4];simp
 ·rw[k1,k3,k4,d3];simp
end
end
end Go.Proofs.YtadllffeoibelaaGreat
