/-
  What these parts of the proof come to, functions walked and plain laws: NxP, NxO, Br3, Vecho. No condition.
-/
import Derived.Test.YtadllffeoibelaaGreatS33
import Derived.Test.YtadllffeoibelaaGreatS15
import Derived.Test.YtadllffeoibelaaGreatS32
import Derived.Test.YtadllffeoibelaaGreatS6
namespace Go.Proofs.YtadllffeoibelaaGreat
set_option maxRecDepth 100000
set_option maxHeartbeats 32000000
set_option linter.all false
section

def spF(s:Nat)(p:Nm)(l:List Vt):List Vt:=l.filter fun x=>decide (x.slot=(s:Int))&&decide (x.parent=p)
def owF(s:Nat)(p:Nm)(f:Int)(l:List Vt)(k r:Int):Bool:=(spF s p l).any fun x=>decide (x.signer=f)&&(decide (x.kind=k)&&decide (x.round=r))
def pV(k r:Int)(x:Vl):Vt→Bool:=pW k r (fun v=>decide (Ew v=x))
def pA(k r:Int):Vt→Bool:=pW k r (fun _=>true)
def pM(k r:Int):Vt→Bool:=pW k r (fun v=>decide (v.choice=2))
section
variable (M:Int)(q:Nat)(p:Nm)(s:Nat)(f:Int)
def Eu(l:List Vt)(H:List Nm)(ow:Int→Int→Bool):Option Vt→Prop
 |none=>ow 2 0=true∨∃O L,Ea M p (s:Int) (slB s l) O∧Ka 1 1 O L∧∀k∈L,¬k∈H
 |some v=>ow 2 0=false∧∃O k,Ea M p (s:Int) (slB s l) O∧¬k=Nm.zero∧1≤At (Bq (pK 1 k) O) 10∧k∈H∧v=⟨2,s,0,1,f,0,p,k⟩
def D0(l:List Vt)(wt:Bool)(ow:Int→Int→Bool):Option Vt→Prop
 |none=>ow 3 1=true∨(wt=false∧∃O,Ea M p (s:Int) (slB s l) O∧Ka 2 q O [])
 |some v=>ow 3 1=false∧((∃O O' k,Ea M p (s:Int) (slB s l) O∧Ea M p (s:Int) (slB s l) O'∧¬k=Nm.zero∧q≤At (Bq (pK 2 k) O) 10∧v=⟨3,s,1,1,f,((Fv (Bq (pK 2 k) O') q:Nat):Int),p,k⟩)
   ∨(wt=true∧(∃O,Ea M p (s:Int) (slB s l) O∧Ka 2 q O [])∧v=⟨3,s,1,0,f,0,p,Nm.zero⟩))
def DI(O:List Vt)(ow:Int→Int→Bool)(r:Int):Option Vt→Prop
 |none=>ow 3 r=false∨ow 4 r=true∨((∀x,Cn 3 r O x→At (Bq (pV 3 r x) O) 10<q)∧At (Bq (pA 3 r) O) 10<q)
 |some v=>ow 3 r=true∧ow 4 r=false∧((∃x,Cn 3 r O x∧q≤At (Bq (pV 3 r x) O) 10∧v=⟨4,s,r,x.choice,f,((Fv (Bq (pV 3 r x) O) q:Nat):Int),p,x.name⟩)
   ∨((∀x,Cn 3 r O x→At (Bq (pV 3 r x) O) 10<q)∧q≤At (Bq (pA 3 r) O) 10∧v=⟨4,s,r,2,f,((Fv (Bq (pA 3 r) O) q:Nat):Int),p,Nm.zero⟩))
def JB(O:List Vt)(ow:Int→Int→Bool)(r:Int):Option Vt→Prop
 |none=>True
 |some v=>ow 4 r=true∧ow 3 (r+1)=false∧∃(x:Vl) (m:Nat),(Cn 4 r O x∨Cn 3 r O x)∧m<1024∧v=⟨3,s,r+1,x.choice,f,(m:Int),p,x.name⟩
def Ci(l:List Vt)(H:List Nm)(wt:Bool):Option Vt→Prop
 |none=>¬((0≤f∧f≤9)∧(xOf M).testBit f.toNat=true)∨(xOf M).testBit s=false∨(∃L,I6 M p s l L∧¬L=[])∨
   (I6 M p s l []∧Eu M p s f (spF s p l) H (owF s p f l) none∧D0 M q p s f (spF s p l) wt (owF s p f l) none∧∃O,Ea M p (s:Int) (spF s p l) O∧∀r:Int,1≤r→r≤12→DI q p s f O (owF s p f l) r none)
 |some v=>((0≤f∧f≤9)∧(xOf M).testBit f.toNat=true)∧(xOf M).testBit s=true∧I6 M p s l []∧
   (Eu M p s f (spF s p l) H (owF s p f l) (some v)∨
    (Eu M p s f (spF s p l) H (owF s p f l) none∧
     (D0 M q p s f (spF s p l) wt (owF s p f l) (some v)∨
      (D0 M q p s f (spF s p l) wt (owF s p f l) none∧∃(O:List Vt) (r:Int),Ea M p (s:Int) (spF s p l) O∧1≤r∧r≤12∧
       (∀r',1≤r'→r'<r→DI q p s f O (owF s p f l) r' none)∧(DI q p s f O (owF s p f l) r (some v)∨(r<12∧DI q p s f O (owF s p f l) r none∧JB p s f O (owF s p f l) r (some v)))))))
variable {M q p s f}
theorem Cn.fits{k r:Int}{O:List Vt}{x:Vl}(hO:∀v∈O,Ae v)(hk:k=3∨k=4)(h:Cn k r O x):(x.choice=0∨x.choice=1)∧(x.choice=1↔¬x.name=Nm.zero)∧1≤r∧r≤12:=by
 obtain⟨v,hv,h1,h2,h3,rfl⟩:=h;obtain⟨_,_,a3,_,_,a6,a7,_⟩:=hO v hv;unfold Ew;refine⟨?_,a3,?_⟩
 ·rcases hk with hk|hk
  ·have:=a6 (by omega);show v.choice=0∨v.choice=1;omega
  ·have:=a7 (by omega);show v.choice=0∨v.choice=1;omega
 ·rcases hk with hk|hk
  ·have:=a6 (by omega);omega
  ·have:=a7 (by omega);omega
def Og(s:Nat)(p:Nm)(f:Int)(ow:Int→Int→Bool)(v:Vt):Prop:=Ae v∧v.slot=(s:Int)∧v.signer=f∧v.parent=p∧ow v.kind v.round=false
theorem Eu.due{l:List Vt}{H:List Nm}{ow:Int→Int→Bool}{v:Vt}(hs:s≤9)(hf:0≤f∧f≤9)(h:Eu M p s f l H ow (some v)):Og s p f ow v:=by
 obtain⟨h1,O,k,_,h2,_,_,rfl⟩:=h;exact⟨⟨by simp,hf,by simp[h2],by simp,fun _=>⟨by simp;omega,rfl,rfl,rfl⟩,by simp,by simp,by simp⟩,rfl,rfl,rfl,h1⟩
theorem Kc(S k:Nat):0≤((Fv S k:Nat):Int)∧((Fv S k:Nat):Int)≤1023:=by have:=NW S k;omega
theorem D0.due{l:List Vt}{wt:Bool}{ow:Int→Int→Bool}{v:Vt}(hs:s≤9)(hf:0≤f∧f≤9)(h:D0 M q p s f l wt ow (some v)):Og s p f ow v:=by
 obtain⟨h1,⟨O,O',k,_,_,h2,_,rfl⟩|⟨_,_,rfl⟩⟩:=h
 ·exact⟨⟨by simp,hf,by simp[h2],Kc _ _,by simp,fun _=>⟨by simp;omega,by simp,by simp,by simp⟩,by simp,by simp⟩,rfl,rfl,rfl,h1⟩
 ·exact⟨⟨by simp,hf,by simp,by simp,by simp,fun _=>⟨by simp;omega,by simp,by simp,by simp⟩,by simp,by simp⟩,rfl,rfl,rfl,h1⟩
theorem DI.due{O:List Vt}{ow:Int→Int→Bool}{r:Int}{v:Vt}(hO:∀v∈O,Ae v)(hs:s≤9)(hf:0≤f∧f≤9)(hr:1≤r∧r≤12)(h:DI q p s f O ow r (some v)):Og s p f ow v:=by
 obtain⟨_,h1,⟨x,hx,_,rfl⟩|⟨_,_,rfl⟩⟩:=h
 ·obtain⟨x1,x2,_⟩:=hx.fits hO (.inl rfl);exact⟨⟨by simp,hf,x2,Kc _ _,by simp,by simp,fun _=>⟨by simp;omega,hr,by show 0≤x.choice∧x.choice≤2;omega⟩,by simp⟩,rfl,rfl,rfl,h1⟩
 ·exact⟨⟨by simp,hf,by simp,Kc _ _,by simp,by simp,fun _=>⟨by simp;omega,hr,by simp⟩,by simp⟩,rfl,rfl,rfl,h1⟩
theorem JB.due{O:List Vt}{ow:Int→Int→Bool}{r:Int}{v:Vt}(hO:∀v∈O,Ae v)(hs:s≤9)(hf:0≤f∧f≤9)(hr:1≤r∧r<12)(h:JB p s f O ow r (some v)):Og s p f ow v:=by
 obtain⟨_,h1,x,m,hx,hm,rfl⟩:=h;have hx':(x.choice=0∨x.choice=1)∧(x.choice=1↔¬x.name=Nm.zero):=by
  rcases hx with hx|hx
  ·have:=hx.fits hO (.inr rfl);exact⟨this.1,this.2.1⟩
  ·have:=hx.fits hO (.inl rfl);exact⟨this.1,this.2.1⟩
 exact⟨⟨by simp,hf,hx'.2,by show 0≤(m:Int)∧(m:Int)≤1023;omega,by simp,fun _=>⟨by simp;omega,by show 1≤r+1∧r+1≤12;omega,by show 0≤x.choice∧x.choice≤1;omega,.inl (by show r+1≠1;omega)⟩,by simp,by simp⟩,rfl,rfl,rfl,h1⟩
theorem Ci.due{l:List Vt}{H:List Nm}{wt:Bool}{v:Vt}(hl:∀v∈l,Ae v)(hs:s≤9)(h:Ci M q p s f l H wt (some v)):Og s p f (owF s p f l) v:=by
 obtain⟨⟨hf,_⟩,_,_,h⟩:=h;rcases h with h|⟨_,h|⟨_,O,r,hO,h1,h2,_,h⟩⟩
 ·exact h.due hs hf
 ·exact h.due hs hf
 ·have hV:∀v∈O,Ae v:=fun v hv=>hl v (List.mem_filter.1 (hO.1.2 v hv).1).1
  rcases h with h|⟨h3,_,h⟩
  ·exact h.due hV hs hf ⟨h1,h2⟩
  ·exact h.due hV hs hf ⟨h1,h3⟩
end
end
section
open Go.RowKit
theorem Ll(w:World):(zeroValue 3).run Tryz.prog w= .ok (.int .i64 0) w:=by kernel_rfl
theorem J5{o:Oper}{a:Act}(x y:Operand)(ho:o.op= .lookup 227 x y false)(m:Nat)(k:Int×Int)(hx:a.eval x= .map (some m))(hy:a.eval y=DG k){w:World}{kl:List ((Int×Int)×Value)}(h:Bh DG w m kl):(execOp a.eval o).run Tryz.prog w= .ok (.value ((BR k kl).getD (.int .i64 0))) w:=by
 have hr:=h.is.look OU Tryz.underlying227 (.int .i64 0) (Ll w) k false;unfold execOp;rw[ho];simp only[hx,hy];simp only[Bool.false_eq_true,if_false]at hr;simp[hr,Result.andThen]
theorem Nk{op:Oper}{a:Act}{K:Act→World→Prop}{Q:Exit→Act→World→Prop}(x y:Operand)(ho:op.op= .mapEntry 227 x y)(m:Nat)(k:Int×Int)(hx:a.eval x= .map (some m))(hy:a.eval y=DG k){w:World}{kl:List ((Int×Int)×Value)}(h:Bh DG w m kl)(hK:∀(w':World) (b:Nat) (v:Value) (kl':List ((Int×Int)×Value)),Il DG w' m kl' k b→(∀k',BR k' kl'=if k'=k then some ((BR k kl).getD (.int .i64 0))else BR k' kl)→w.grownBy w' (some m)→w'.heap.size=w.heap.size→K (a.put op.dst (.tuple #[v,goInt (b:Int)])) w'):op.wp Tryz.prog a w K Q:=by
 obtain⟨w',b,v,kl',hr,h1,h2,h3,h4,h5,h6⟩:=h.entryX OU Tryz.underlying227 (.int .i64 0) Ll k;refine B5 (w':=w') (.tuple #[v,goInt (b:Int)]) ?_ (hK w' b v kl' h1 h2 h5 h6);unfold execOp;rw[ho];simp only[hx,hy];simp[hr,Result.andThen]
theorem Nl{op:Oper}{a:Act}{K:Act→World→Prop}{Q:Exit→Act→World→Prop}(x y z:Operand)(ho:op.op= .entryStore 227 x y z)(m b:Nat)(k:Int×Int)(v:Value)(hx:a.eval x= .map (some m))(hy:a.eval y=goInt (b:Int))(hz:a.eval z=v){w:World}{kl:List ((Int×Int)×Value)}(h:Il DG w m kl k b)(hK:∀(w':World) (kl':List ((Int×Int)×Value)),kl'=CJ k v kl→Bh DG w' m kl'→w.grownBy w' (some m)→w'.heap.size=w.heap.size→K (a.put op.dst undef) w'):op.wp Tryz.prog a w K Q:=by
 obtain⟨w',hr,h1,h2,h3,h4,h5⟩:=h.store (P:=Tryz.prog) 227 v;refine KW (w':=w') ?_ (hK w' _ rfl h1 h4 h5);unfold execOp;rw[ho];simp only[hx,hy,hz];simp[hr,Result.andThen]
theorem J6{κ:Type}{enc:κ→Value}{w:World}{m base n size:Nat}{e:TypeId}{v:Value}{xs:List Value}{l:List (κ×Value)}(h:Bh enc w m l)(ho:w.ownsRow base e size v n xs):some m≠v.ownBlock:=by
 obtain⟨es,c,h1,_⟩:=h;rcases ho.2 with⟨rfl,_⟩|⟨g,cap,cur,rfl,_,hh,_⟩
 ·simp[Value.ownBlock]
 ·intro he;have:m=g:=by simpa[Value.ownBlock]using he
  subst this;rw[h1]at hh;cases hh
theorem J7{κ:Type}{enc:κ→Value}{w:World}{m g t:Nat}{cs:Array Value}{l:List (κ×Value)}(h:Bh enc w m l)(hB:Blk w g t cs):m≠g:=by
 obtain⟨es,c,h1,_⟩:=h;rintro rfl;unfold Blk at hB;rw[h1]at hB;cases hB
theorem Nn{s:Nat}{p:Nm}{l:List Vt}{x:Vt}(h:x∈spF s p l):x∈l∧x.slot=(s:Int)∧x.parent=p:=by
 obtain⟨h1,h2⟩:=List.mem_filter.1 h;rw[Bool.and_eq_true,decide_eq_true_eq,decide_eq_true_eq]at h2;exact⟨h1,h2⟩
theorem Lm{s:Nat}{p:Nm}{l:List Vt}{i:Nat}{x:Vt}(hx:l[i]? =some x):spF s p (l.take (i+1))=spF s p (l.take i)++if(decide (x.slot=(s:Int))&&decide (x.parent=p))=true then[x]else[]:=by
 unfold spF;rw[Ag,hx,BE,List.filter_append];simp only[List.filter_cons,List.filter_nil]
theorem Kd{s:Nat}{p:Nm}{l:List Vt}{i:Nat}{x:Vt}(hx:l[i]? =some x)(h1:x.slot=(s:Int))(h2:x.parent=p):spF s p (l.take (i+1))=spF s p (l.take i)++[x]:=by
 rw[Lm hx,if_pos (by simp[h1,h2])]
theorem JC{s:Nat}{p:Nm}{l:List Vt}{i:Nat}{x:Vt}(hx:l[i]? =some x)(h1:¬(x.slot=(s:Int)∧x.parent=p)):spF s p (l.take (i+1))=spF s p (l.take i):=by
 rw[Lm hx,if_neg (by simpa using h1),List.append_nil]
def OwB(s:Nat)(p:Nm)(f:Int)(l:List Vt)(n:Nat)(kl:List ((Int×Int)×Value)):Prop:=
 ∀k r,∃z:Nat,(BR (k,r) kl).getD (.int .i64 0)= .int .i64 (z:Int)∧z≤n∧decide (0<z)=owF s p f l k r
theorem OwB.nil(s:Nat)(p:Nm)(f:Int):OwB s p f [] 0 []:=fun _ _=>⟨0,rfl,AB _,rfl⟩
theorem OwB.miss{s:Nat}{p:Nm}{f:Int}{l:List Vt}{i:Nat}{x:Vt}{kl:List ((Int×Int)×Value)}(h:OwB s p f (l.take i) i kl)(hx:l[i]? =some x)(h1:¬(x.slot=(s:Int)∧x.parent=p)):OwB s p f (l.take (i+1)) (i+1) kl:=fun k r=>by
 obtain⟨z,a1,a2,a3⟩:=h k r;refine⟨z,a1,by omega,?_⟩;rw[a3];unfold owF;rw[JC hx h1]
theorem OwB.other{s:Nat}{p:Nm}{f:Int}{l:List Vt}{i:Nat}{x:Vt}{kl:List ((Int×Int)×Value)}(h:OwB s p f (l.take i) i kl)(hx:l[i]? =some x)(h1:x.slot=(s:Int))(h2:x.parent=p)(h3:¬x.signer=f):OwB s p f (l.take (i+1)) (i+1) kl:=fun k r=>by
 obtain⟨z,a1,a2,a3⟩:=h k r;refine⟨z,a1,by omega,?_⟩;rw[a3];unfold owF;rw[Kd hx h1 h2,List.any_append];simp[h3]
theorem OwB.hit{s:Nat}{p:Nm}{f:Int}{l:List Vt}{i z:Nat}{x:Vt}{kl kl5 kl6:List ((Int×Int)×Value)}(h:OwB s p f (l.take i) i kl)(hx:l[i]? =some x)(h1:x.slot=(s:Int))(h2:x.parent=p)(h3:x.signer=f)(hz:(BR (x.kind,x.round) kl).getD (.int .i64 0)= .int .i64 (z:Int))(h5:∀k',BR k' kl5=if k'=(x.kind,x.round)then some ((BR (x.kind,x.round) kl).getD (.int .i64 0))else BR k' kl)(h6:kl6=CJ (x.kind,x.round) (.int .i64 ((z+1:Nat):Int)) kl5):OwB s p f (l.take (i+1)) (i+1) kl6:=fun k r=>by
 have e:owF s p f (l.take (i+1)) k r=(owF s p f (l.take i) k r||(decide (x.kind=k)&&decide (x.round=r))):=by
  unfold owF;rw[Kd hx h1 h2,List.any_append];simp[h3]
 rw[e,h6,Cy];obtain⟨z',a1,a2,a3⟩:=h k r;by_cases hk:(k,r)=(x.kind,x.round)
 ·rw[if_pos hk,Option.getD_some];injection hk with hk1 hk2
  subst hk1;subst hk2;rw[a1]at hz;simp only[Value.int.injEq,true_and]at hz;exact⟨z+1,rfl,by omega,by simp⟩
 ·rw[if_neg hk,h5,if_neg hk];have:(decide (x.kind=k)&&decide (x.round=r))=false:=by
   rw[Bool.and_eq_false_iff,decide_eq_false_iff_not,decide_eq_false_iff_not];by_cases hk1:x.kind=k
   ·refine .inr fun hr=>hk (by rw[hk1,hr])
   ·exact .inl hk1
  rw[this,Bool.or_false];exact⟨z',a1,by omega,a3⟩
theorem FH{o:Oper}{a:Act}(M q s f:Int)(p:Nm)(mo:Nat)(x0 x1 x2 x3 x4 x6:Operand)(ho:o.op= .build 229 #[(0,x0),(1,x1),(2,x2),(3,x3),(4,x4),(6,x6)])(h0:a.eval x0= .int .i64 M)(h1:a.eval x1=I q)(h2:a.eval x2=I s)(h3:a.eval x3=I f)(h4:a.eval x4= .agg p.cells)(h6:a.eval x6= .map (some mo))(w:World):(execOp a.eval o).run Tryz.prog w= .ok (.value (.agg (Ca M q s f p none 0 0 mo))) w:=by
 unfold execOp;rw[ho];simp only[List.map_toArray,List.map_cons,List.map_nil,h0,h1,h2,h3,h4,h6];go_simp
end
section
open Go.RowKit Go.Shelf
attribute [local go_sem ↓] Go.wp_at_zero Go.wp_at_succ An Au Av Aw
attribute [local go_sem] BD BH BI BJ AN AW AQ
def IP(M:Int)(p:Nm)(s:Nat)(kd:Int)(n:Nat)(l:List Vt)(w:World)(e:Ending)(w':World):Prop:=
 ∃(v:Value) (O:List Vt) (L:List Nm),e= .returned v∧Ea M p (s:Int) (slB s l) O∧Ka kd n O L∧L.length≤l.length∧w'.ownsRow w.heap.size 24 8 v L.length (L.flatMap nmc)∧Below w.heap.size w w'
theorem No{a i:Nat}:∀n,i<n→a.testBit i=true→0<At a n
 |0,h,_=>by omega
 |n+1,h,hb=>by
  rw[C2];by_cases e:i=n
  ·subst e;rw[hb];simp
  ·have:=No n (by omega) hb;omega
theorem Np{M:Int}{s:Nat}(hs:(xOf M).testBit s=true):0<At (xOf M) 10:=by
 refine No 10 ?_ hs;rcases Nat.lt_or_ge s 10 with h|h
 ·exact h
 ·rw[Nat.testBit_lt_two_pow (Nat.lt_of_lt_of_le (MT M) (show 2^10≤2^s from Nat.pow_le_pow_right (by decide) h))]at hs;cases hs
theorem Oh(M:Int)(p:Nm)(A:Option Addr)(n c:Nat)(l:List Vt)(s:Nat)(w0:World)(hn:l.length=n)(hr:Rd w0 w0.heap.size A (l.flatMap vtc))(hsm:n≤1000000)(hl:∀v∈l,Ae v)(hs:(xOf M).testBit s=true):Calls Tryz.prog 205 #[.int .i64 M,p.val,.slice A n c,.int .i64 (s:Int)] w0 (IP M p s 1 1 l w0):=by
 obtain⟨w,hw⟩:∃wa,wa=w0.alloc (.cells p.cells 24):=⟨_,rfl⟩;have hb0:Below w0.heap.size w0 w:=by rw[hw];exact(AC _ _).alloc (AB _) _
 have hBq:Blk w w0.heap.size 24 p.cells:=by rw[hw];exact Blk.new w0 _ _
 obtain⟨q,hq⟩:∃q,q=w0.heap.size:=⟨_,rfl⟩;rw[←hq]at hBq;have HSg:=AA (FG M p A n c l s 1 w hn ((hr.below hb0).more hb0.size) hsm hl hs);have HN:=AA hn;have hN6:l.length≤1000000:=by omega
 have HW:=AA hw;have HQ:=AA hq;have y1:AK w q 0 8=some p.cells:=hBq.row 8 rfl;clear hn hr hl hs hw hBq hq;go_enter Tryz.func205,Tryz.ntmps205;go_upto_region 1 with fail
 simp only[←HW.out,←HQ.out];go_wp2_with (first
  |(go_at_call 250;refine HSg.out.mono ?_;rintro en w3 ⟨m,O,kl,rfl,hO,hOn,hbr,hmp,hm0,hb3⟩;have HO:=AA hO;have HAsc:=AA (Lh 1 1 O m kl w3 (fun v hv=>(hO.1.2 v hv).2.1.1.2.1) (by omega) (AB _) hbr hmp);clear hbr hmp hO)
  |(go_at_call 249;refine HAsc.out.mono ?_;rintro en w4 ⟨v4,L,rfl,hA,hLn,hown,hb4⟩;have HA:=AA hA;have HOwn:=AA hown;clear hA hown))
 go_ret;have hb3':=hb0.trans (hb3.mono hb0.size);exact⟨v4,O,L,rfl,HO.out,HA.out,by omega,BF HOwn.out hb3'.size,hb3'.trans (hb4.mono hb3'.size)⟩
theorem Oi(M:Int)(p:Nm)(A:Option Addr)(n c:Nat)(l:List Vt)(s:Nat)(w0:World)(hn:l.length=n)(hr:Rd w0 w0.heap.size A (l.flatMap vtc))(hsm:n≤1000000)(hl:∀v∈l,Ae v)(hs:(xOf M).testBit s=true):Calls Tryz.prog 207 #[.int .i64 M,p.val,.slice A n c,.int .i64 (s:Int)] w0 (IP M p s 2 (B9 (At (xOf M) 10)) l w0):=by
 obtain⟨w,hw⟩:∃wa,wa=w0.alloc (.cells p.cells 24):=⟨_,rfl⟩;have hb0:Below w0.heap.size w0 w:=by rw[hw];exact(AC _ _).alloc (AB _) _
 have hBq:Blk w w0.heap.size 24 p.cells:=by rw[hw];exact Blk.new w0 _ _
 obtain⟨q,hq⟩:∃q,q=w0.heap.size:=⟨_,rfl⟩;rw[←hq]at hBq;have HSg:=AA (FG M p A n c l s 2 w hn ((hr.below hb0).more hb0.size) hsm hl hs);have HN:=AA hn;have hN6:l.length≤1000000:=by omega
 have HW:=AA hw;have HQ:=AA hq;have y1:AK w q 0 8=some p.cells:=hBq.row 8 rfl;have hq1:1≤B9 (At (xOf M) 10):=IL (Np hs);have HSz:Hid (∀W,Calls Tryz.prog 15 #[.int .i64 M] W fun e w'=>e= .returned (.int .i64 ((At (xOf M) 10:Nat):Int))∧w'=W):=fun W=>CU M W
 have HQu:Hid (∀W,Calls Tryz.prog 115 #[.int .i64 ((At (xOf M) 10:Nat):Int)] W fun e w'=>e= .returned (.int .i64 ((B9 (At (xOf M) 10):Nat):Int))∧w'=W):=fun W=>Ej _ (D6 _ _) W
 obtain⟨a,ha⟩:∃a,a=At (xOf M) 10:=⟨_,rfl⟩;rw[←ha]at hq1 HSz HQu ⊢;obtain⟨b,hb⟩:∃b,b=B9 a:=⟨_,rfl⟩;rw[←hb]at hq1 HQu ⊢;have HQ1:=AA hq1;clear hn hr hl hs hw hBq hq ha hb hq1;go_enter Tryz.func207,Tryz.ntmps207;go_upto_region 1 with fail
 simp only[←HW.out,←HQ.out];go_wp2_with (first
  |(go_at_call 250;refine HSg.out.mono ?_;rintro en w3 ⟨m,O,kl,rfl,hO,hOn,hbr,hmp,hm0,hb3⟩;have HO:=AA hO;have HAsc:=AA (Lh 2 b O m kl w3 (fun v hv=>(hO.1.2 v hv).2.1.1.2.1) (by omega) (HQ1.out) hbr hmp);clear hbr hmp hO)
  |(go_at_call 15;refine(HSz.out _).mono ?_;rintro en w5 ⟨rfl,hw5⟩;replace hw5:=hw5.symm;subst hw5)
  |(go_at_call 115;refine(HQu.out _).mono ?_;rintro en w6 ⟨rfl,hw6⟩;replace hw6:=hw6.symm;subst hw6)
  |(go_at_call 249;refine HAsc.out.mono ?_;rintro en w4 ⟨v4,L,rfl,hA,hLn,hown,hb4⟩;have HA:=AA hA;have HOwn:=AA hown;clear hA hown))
 go_ret;have hb3':=hb0.trans (hb3.mono hb0.size);exact⟨v4,O,L,rfl,HO.out,HA.out,by omega,BF HOwn.out hb3'.size,hb3'.trans (hb4.mono hb3'.size)⟩
def IA(M:Int)(p:Nm)(s:Nat)(l:List Vt)(k:Nm)(w:World)(e:Ending)(w':World):Prop:=
 ∃(O:List Vt),e= .returned (.int .i64 ((Bq (pK 2 k) O:Nat):Int))∧Ea M p (s:Int) (slB s l) O∧Below w.heap.size w w'
theorem Ln(M:Int)(p:Nm)(A:Option Addr)(n c:Nat)(l:List Vt)(s:Nat)(k:Nm)(w0:World)(hn:l.length=n)(hr:Rd w0 w0.heap.size A (l.flatMap vtc))(hsm:n≤1000000)(hl:∀v∈l,Ae v)(hs:(xOf M).testBit s=true):Calls Tryz.prog 208 #[.int .i64 M,p.val,.slice A n c,.int .i64 (s:Int),k.val] w0 (IA M p s l k w0):=by
 obtain⟨w,hw⟩:∃wa,wa=w0.alloc (.cells p.cells 24):=⟨_,rfl⟩;have hb0:Below w0.heap.size w0 w:=by rw[hw];exact(AC _ _).alloc (AB _) _
 have hBq:Blk w w0.heap.size 24 p.cells:=by rw[hw];exact Blk.new w0 _ _
 obtain⟨q,hq⟩:∃q,q=w0.heap.size:=⟨_,rfl⟩;rw[←hq]at hBq;have hqw:q<w.heap.size:=hBq.lt;obtain⟨w2,hw2⟩:∃wa,wa=w.alloc (.cells k.cells 24):=⟨_,rfl⟩;have hb2:Below w0.heap.size w0 w2:=by rw[hw2];exact hb0.alloc hb0.size _
 obtain⟨z,hz⟩:∃z,z=w0.heap.size+1:=⟨_,rfl⟩;have hs1:w.heap.size=w0.heap.size+1:=by rw[hw];simp
 have hBz:Blk w2 z 24 k.cells:=by rw[hw2,hz,←hs1];exact Blk.new w _ _
 have hBq2:Blk w2 q 24 p.cells:=by rw[hw2];exact hBq.alloc _
 have HRows:Hid (∀V,Below w2.heap.size w2 V→AK V q 0 8=some p.cells∧AK V z 0 8=some k.cells):=fun V hV=>⟨(hBq2.below hV hBq2.lt).row 8 rfl,(hBz.below hV hBz.lt).row 8 rfl⟩
 have HSg:Hid (∀V,Below w2.heap.size w2 V→Calls Tryz.prog 250 #[.int .i64 M,p.val,.slice A n c,.int .i64 (s:Int),.int .i64 2] V (Ni M p s 2 l V)):=fun V hV=>FG M p A n c l s 2 V hn ((hr.below (hb2.trans (hV.mono hb2.size))).more (AF hb2.size hV.size)) hsm hl hs
 have HW:=AA hw;have HW2:=AA hw2;have HQ:=AA hq;have HZ:=AA hz;have hbx:Below w2.heap.size w2 w2:=AC _ _;clear hn hr hl hs hw hBq hq hw2 hz hBz hBq2 hs1 hqw;go_enter Tryz.func208,Tryz.ntmps208;go_upto_region 1 with fail
 simp only[←HW.out,←HW2.out,←HZ.out];simp only[←HQ.out];refine rgD (fun V=>AK V q 0 8=some p.cells∧AK V z 0 8=some k.cells) (HRows.out _ hbx.drew) fun hHeld=>?_
 refine tkD 11 0 ?_;go_frame;refine tkD 12 1 ?_;go_frame;refine tkD 13 2 ?_;go_frame;refine tkD 14 3 ?_;go_frame;refine tkD 16 5 ?_;go_frame;refine rd1 4 fun K hK=>?_
 go_simp;refine(HSg.out _ hbx.drew).mono ?_;rintro en w3 ⟨m,O,kl,rfl,hO,hOn,hbr,hmp,hm0,hb3⟩;have hbx3:=hbx.drew.trans (hb3.mono (AB _));have HO:=AA hO;obtain⟨S,hS⟩:∃S,S=Bq (pK 2 k) O:=⟨_,rfl⟩;have HLk:Hid ((BR k kl).getD (.int .i64 0)= .int .i64 (S:Int)):=by(unfold Hid;rw[hS];exact hbr.1 k)
 have HS:=AA hS;have HMp:=AA hmp;clear hO hbr hmp hb3 hS;go_wp2_with fail
 refine hK.out _ _ (HRows.out _ hbx3) (fun hHeld=>?_);clear hK K;try go_frame
 refine rd1 6 fun K hK=>?_
 rw[if_pos (by rfl)];refine B5 (.int .i64 (S:Int)) ((Hd (.tmp 15) (.tmp 16) rfl m k rfl rfl HMp.out).trans (by rw[HLk.out])) ?_;refine hK.out _ _ (HRows.out _ hbx3) (fun hHeld=>?_);clear hK K;try go_frame
 refine tkD 10 7 ?_;go_frame;refine dnD ?_;go_wp2;go_ret;exact⟨O,by rw[←HS.out];simp,HO.out,hb2.trans (hbx3.mono hb2.size)⟩
end
section
open Go.RowKit Go.Shelf
attribute [local go_sem ↓] Go.wp_at_zero Go.wp_at_succ An Au Av Aw DK
attribute [local go_sem] BD BH BI BJ EO AN AW AQ
theorem BY{w:World}{base e size n:Nat}{v:Value}{xs:List Value}(h:w.ownsRow base e size v n xs):∃A c,v= .slice A n c∧Rd w w.heap.size A xs:=by
 rcases h.2 with⟨rfl,h0⟩|⟨g,cap,cur,rfl,_⟩
 ·exact⟨none,0,by rw[h0],.inl (AV (by rw[h.1,h0,Nat.zero_mul]))⟩
 ·exact⟨_,cap,rfl,Rd.of_own h⟩
def Ex:Option Vt→Array Value
 |none=>Ah
 |some v=>v.cells
def Cv(R:Option Vt→Prop)(w:World)(e:Ending)(w':World):Prop:=∃o:Option Vt,e= .returned (.tuple #[.agg (Ex o),.bool o.isSome])∧R o∧Below w.heap.size w w'
theorem QV{w:World}{b:Nat}{M q f:Int}{s:Nat}{p:Nm}{A:Option Addr}{c mo:Nat}{O:List Vt}{ow:Int→Int→Bool}(h:EU w b M q (s:Int) f p A c mo O ow)(A':Option Addr)(n' c':Nat)(l:List Vt)(hn:l.length=n')(hr:Rd w w.heap.size A' (l.flatMap vtc))(hsm:n'≤1000000)(hl:∀v∈l,Ae v)(hs:(xOf M).testBit s=true)(AH:Option Addr)(nH cH:Nat)(H:List Nm)(hnH:H.length=nH)(hrH:Rd w w.heap.size AH (H.flatMap nmc))(hsmH:nH≤1000000):Calls Tryz.prog 160 #[.pointer (some ⟨b,0,none⟩),.slice A' n' c',.slice AH nH cH] w (Cv (Eu M p s f l H ow) w):=by
 obtain⟨w1,hw1⟩:∃w1,w1=w.alloc (.cells Ah 46):=⟨_,rfl⟩;have hb1:Below w.heap.size w w1:=by rw[hw1];exact(AC _ _).alloc (AB _) _
 obtain⟨g,hg⟩:∃g,g=w.heap.size:=⟨_,rfl⟩;have hG1:Blk w1 g 46 Ah:=by rw[hw1,hg];exact Blk.new w _ _
 have hgw:w.heap.size≤g:=by omega
 have hV1:=h.below hb1;have HV:Hid (∀V,Below w1.heap.size w1 V→EU V b M q (s:Int) f p A c mo O ow):=fun V hV=>hV1.below hV
 have HG:Hid (∀V,Below w1.heap.size w1 V→Blk V g 46 Ah):=fun V hV=>hG1.below hV hG1.lt
 have HS:Hid (∀V,Below w1.heap.size w1 V→V.cell? ⟨b,0,none⟩=some (.int .i64 M)∧AK V b 4 8=some p.cells∧V.cell? ⟨b,2,none⟩=some (.int .i64 (s:Int))):=fun V hV=>⟨(hV1.below hV).blk.cell 0,(hV1.below hV).row_parent,(hV1.below hV).blk.cell 2⟩
 have HSgd:=AA (DN hV1 2 0);have HPr:Hid (∀V,Below w1.heap.size w1 V→Calls Tryz.prog 205 #[.int .i64 M,p.val,.slice A' n' c',.int .i64 (s:Int)] V (IP M p s 1 1 l V)):=fun V hV=>Oh M p A' n' c' l s V hn ((hr.below (hb1.trans (hV.mono hb1.size))).more (AF hb1.size hV.size)) hsm hl hs
 have HRH:Hid (∀V,Below w1.heap.size w1 V→Rd V w.heap.size AH (H.flatMap nmc)):=fun V hV=>hrH.below (hb1.trans (hV.mono hb1.size))
 have hN6:l.length≤1000000:=by omega
 have HNH:=AA hnH;have HB1:=AA hb1;have HW1:=AA hw1;have HGg:=AA hg;obtain⟨d,hd⟩:∃d,d=ow 2 0:=⟨_,rfl⟩;rw[←hd]at HSgd;have hbx:Below w1.heap.size w1 w1:=AC _ _;clear h hn hr hsm hl hs hnH hrH hw1 hb1 hg hG1 hV1;go_enter Tryz.func160,Tryz.ntmps160;go_upto_region 1 with fail
 simp only[←HW1.out,←HGg.out];cases d with
 |true=>
  have HD:=AA hd.symm;clear hd;go_wp2_with (first
   |(go_at_call 204;refine HSgd.out.mono ?_;rintro en w2 ⟨rfl,hw2⟩;replace hw2:=hw2.symm;subst hw2)
   |(refine AJ rfl 46 (.tmp 6) (.tmp 14) rfl g Ah rfl rfl 46 Ah (HG.out _ hbx) rfl Ao (fun u hu=>CE hu) ?_;intro w9 hR9 hg9 hsz9))
  refine bodyPost_ret (Ab (g:=g) (cs:=Ah) rfl _ _ _ _ _ rfl hR9 Tryz.underlying46 rfl Ao) rfl ⟨none,rfl,.inl HD.out,?_⟩;exact HB1.out.grown hg9 HB1.out.size (fun k hk=>by injection hk with hk;subst hk;exact hgw)
 |false=>
  have HD:=AA hd.symm;clear hd;go_upto_region 3 with(go_at_call 204;refine HSgd.out.mono ?_;rintro en w2 ⟨rfl,hw2⟩;replace hw2:=hw2.symm;subst hw2)
  refine rgD (fun V=>V.cell? ⟨b,0,none⟩=some (.int .i64 M)∧AK V b 4 8=some p.cells∧V.cell? ⟨b,2,none⟩=some (.int .i64 (s:Int))) (HS.out _ hbx.drew) fun hHeld=>?_
  refine tkD 15 0 ?_;go_frame;refine tkD 16 1 ?_;go_frame;refine tkD 17 2 ?_;go_frame;refine tkD 18 3 ?_;go_frame;refine tkD 19 4 ?_;go_frame;refine tkD 20 5 ?_;go_frame;refine tkD 21 6 ?_;go_frame;refine tkD 22 7 ?_;go_frame;refine tkD 23 8 ?_;go_frame;refine tkD 24 9 ?_;go_frame;refine tkD 25 10 ?_;go_frame;refine tkD 26 11 ?_;go_frame;refine tkD 27 12 ?_;go_frame;refine tkD 30 15 ?_;go_frame;refine rd1 13 fun K hK=>?_
  go_simp;refine(HPr.out _ hbx.drew).mono ?_;rintro en w3 ⟨v3,O3,L,rfl,hO3,hA3,hL3,hown3,hb3⟩;have hbx3:=hbx.drew.trans (hb3.mono (AB _));obtain⟨A3,c3,rfl,hR3⟩:∃A1 c1,v3= .slice A1 L.length c1∧Rd w3 w3.heap.size A1 (L.flatMap nmc):=(by
   rcases hown3.2 with⟨rfl,h0⟩|⟨g',cap,cur,rfl,_⟩
   ·exact⟨none,0,by rw[h0],.inl (AV (by rw[hown3.1,h0,Nat.zero_mul]))⟩
   ·exact⟨_,cap,rfl,Rd.of_own hown3⟩)
  have HR3:=AA hR3;have HO3:=AA hO3;have HA3:=AA hA3;obtain⟨nL,hnL⟩:∃nL,L.length=nL:=⟨_,rfl⟩;rw[hnL]at hL3 ⊢;have HNL:=AA hnL;clear hown3 hR3 hO3 hA3 hb3 hnL;go_wp2_with fail
  refine hK.out _ _ (HS.out _ hbx3) (fun hHeld=>?_);clear hK K;try go_frame
  refine tkD 29 14 ?_;go_frame;refine dnD ?_;have hnL6:nL≤1000000:=by omega
  go_wp2
  go_loopw [30] (fun iv wr=>∃i:Nat,iv= .int .i64 (i:Int)∧i≤nL∧Below w3.heap.size w3 wr∧∀k∈L.take i,¬k∈H) (fun iv _=>nL-(intOf iv).toNat)
  case atStart=>exact⟨0,rfl,Nat.zero_le _,AC _ _,fun k hk=>by simp at hk⟩
  case round=>
   obtain⟨i,rfl,hin,hbr,hno⟩:=hrel;have HNo:=AA hno;have hbxr:=hbx3.trans (hbr.mono hbx3.size);clear hno;by_cases hi:i<nL
   ·have di:decide ((i:Int)<(nL:Int))=true:=by simp;omega
    obtain⟨x,hx⟩:∃x,L[i]? =some x:=⟨_,AE (by rw[HNL.out];exact hi)⟩;obtain⟨g0,o,rfl,hb,hcell⟩:=HR3.out.cells (by intro e;have:=AX nmc 8 L (Cb L);rw[e,HNL.out]at this;simp at this;omega);clear hcell;have x1:AK wr g0 (o+i*8) 8=some x.cells:=(HR3.out.below hbr).row hx;have HX:=AA hx;clear hx;go_upto_region 6 with fail
    obtain⟨w4,hw4⟩:∃w4,w4=wr.alloc (.cells x.cells 24):=⟨_,rfl⟩;rw[←hw4];have hB4:Blk w4 wr.heap.size 24 x.cells:=by rw[hw4];exact Blk.new wr _ _
    have hb4:Below w3.heap.size w3 w4:=by rw[hw4];exact hbr.alloc hbr.size _
    obtain⟨z,hz⟩:∃z,z=wr.heap.size:=⟨_,rfl⟩;rw[←hz]at hB4 ⊢;have HZ4:Hid (∀V,Below w4.heap.size w4 V→AK V z 0 8=some x.cells):=fun V hV=>(hB4.below hV hB4.lt).row 8 rfl
    clear hw4 hz hB4 x1;go_wp2
    go_loopw [36] (fun iv wr=>∃j:Nat,iv= .int .i64 (j:Int)∧j≤nH∧Below w4.heap.size w4 wr∧¬x∈H.take j) (fun iv _=>nH-(intOf iv).toNat)
    case atStart=>exact⟨0,rfl,Nat.zero_le _,AC _ _,by simp⟩
    case round=>
     obtain⟨j,rfl,hjn,hby,hnx⟩:=hrel;have HNx:=AA hnx;have hby3:=hb4.trans (hby.mono hb4.size);have hbxy:=hbx3.trans (hby3.mono hbx3.size);clear hnx;by_cases hj:j<nH
     ·have dj:decide ((j:Int)<(nH:Int))=true:=by simp;omega
      obtain⟨k,hk⟩:∃k,H[j]? =some k:=⟨_,AE (by rw[HNH.out];exact hj)⟩;obtain⟨g1,o1,rfl,hb',hcell⟩:=(HRH.out _ hbx).cells (by intro e;have:=AX nmc 8 H (Cb H);rw[e,HNH.out]at this;simp at this;omega);clear hcell;have x2:AK wr g1 (o1+j*8) 8=some k.cells:=(HRH.out _ hbxy).row hk;have HK:=AA hk;clear hk;go_upto_region 9 with fail
      obtain⟨w5,hw5⟩:∃w5,w5=wr.alloc (.cells k.cells 24):=⟨_,rfl⟩;rw[←hw5];have hB5:Blk w5 wr.heap.size 24 k.cells:=by rw[hw5];exact Blk.new wr _ _
      have hb5:Below w4.heap.size w4 w5:=by rw[hw5];exact hby.alloc hby.size _
      obtain⟨z5,hz5⟩:∃z,z=wr.heap.size:=⟨_,rfl⟩;rw[←hz5]at hB5 ⊢;have x5:AK w5 z5 0 8=some k.cells:=hB5.row 8 rfl;have x4:AK w5 z 0 8=some x.cells:=HZ4.out _ hb5;have hb53:=hb4.trans (hb5.mono hb4.size);have hbx5:=hbx3.trans (hb53.mono hbx3.size);clear hw5 hz5 hB5 x2 hbxy hby3;by_cases he:k=x
      ·have e9:∀W,(Op.equalIn 10000 24 (.agg k.cells) (.agg x.cells)).run Tryz.prog W= .ok true W:=fun W=>by
        have h:=Dz k x W 9998;rwa[decide_eq_true he]at h
       obtain⟨v,hv⟩:∃v:Vt,v=Vt.mk 2 (s:Int) 0 1 f 0 p x:=⟨_,rfl⟩;have HVo:Hid (∀V,Below w1.heap.size w1 V→Calls Tryz.prog 206 #[.pointer (some ⟨b,0,none⟩),.int .i64 2,.int .i64 0,(Vl.mk 1 x).val,.int .i64 0] V (fun e w'=>e= .returned (.tuple #[v.val,.bool true])∧Below V.heap.size V w')):=fun V hV=>by rw[hv];exact FX (HV.out V hV) 2 0 (Vl.mk 1 x) 0
       have HVv:=AA hv;have HE:=AA he;clear he hv;go_wp2_with (first
        |(refine Great.wpList_readTo rfl (some 45) rfl (Vl.mk 1 x).val (Ey 1 x (.const (.int .i64 1)) (.tmp 44) rfl rfl rfl _) ?_)
        |(go_at_call 206;refine(HVo.out _ hbx5).mono ?_;rintro en w7 ⟨rfl,hb7⟩;have hbx7:=hbx5.trans (hb7.mono hbx5.size))
        |(refine AJ rfl 46 (.tmp 6) (.tmp 47) rfl g v.cells rfl rfl 46 Ah (HG.out _ hbx7) rfl Ao (fun u hu=>BM _ hu) ?_;intro w9 hR9 hg9 hsz9))
       have hb07:=HB1.out.trans (hbx7.mono HB1.out.size);refine bodyPost_ret (Ab (g:=g) (cs:=v.cells) rfl _ _ _ _ _ rfl hR9 Tryz.underlying46 rfl Ao) rfl ⟨some v,rfl,⟨HD.out,O3,x,HO3.out,((HA3.out x).1 (AM HX.out)).1,((HA3.out x).1 (AM HX.out)).2,by rw[←HE.out];exact AM HK.out,HVv.out⟩,?_⟩;exact hb07.grown hg9 hb07.size (fun k hk=>by injection hk with hk;subst hk;exact hgw)
      ·have e9:∀W,(Op.equalIn 10000 24 (.agg k.cells) (.agg x.cells)).run Tryz.prog W= .ok false W:=fun W=>by
        have h:=Dz k x W 9998;rwa[decide_eq_false he]at h
       have HE:=AA he;clear he;go_wp2;go_roundw
       case rel=>
        refine⟨j+1,by go_num,by omega,hb5,fun hm=>?_⟩;rw[Ag,HK.out,BE]at hm;rcases AP.1 hm with hm|hm
        ·exact HNx.out hm
        ·exact HE.out (AR.1 hm).symm
       case measure=>simp[intOf];omega
     ·have dj:decide ((j:Int)<(nH:Int))=false:=by simp;omega
      go_wp2;go_roundw
      case rel=>
       refine⟨i+1,by go_num,by omega,hby3,fun k hk=>?_⟩;rw[Ag,HX.out,BE]at hk;rcases AP.1 hk with hk|hk
       ·exact HNo.out k hk
       ·rw[AR.1 hk];have hnx:=HNx.out;rwa[AT (by rw[HNH.out];omega)]at hnx
      case measure=>simp[intOf];omega
   ·have di:decide ((i:Int)<(nL:Int))=false:=by simp;omega
    have hall:∀k∈L,¬k∈H:=by
     have h:=HNo.out;rwa[AT (by rw[HNL.out];omega)]at h
    have HAll:=AA hall;clear hall;have hb0r:=HB1.out.trans (hbxr.mono HB1.out.size);go_wp2_with (refine AJ rfl 46 (.tmp 6) (.tmp 51) rfl g Ah rfl rfl 46 Ah (HG.out _ hbxr) rfl Ao (fun u hu=>CE hu) ?_;intro w9 hR9 hg9 hsz9)
    refine bodyPost_ret (Ab (g:=g) (cs:=Ah) rfl _ _ _ _ _ rfl hR9 Tryz.underlying46 rfl Ao) rfl ⟨none,rfl,.inr ⟨O3,L,HO3.out,HA3.out,HAll.out⟩,?_⟩;exact Below.grown (hb0r) hg9 (Below.size (hb0r)) (fun k hk=>by injection hk with hk;subst hk;exact hgw)
end
end Go.Proofs.YtadllffeoibelaaGreat
