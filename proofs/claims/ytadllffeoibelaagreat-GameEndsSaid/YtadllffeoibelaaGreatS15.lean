/-
  Parts of the proof. No condition.
-/
import Derived.Test.YtadllffeoibelaaGreatS14
open Go.Proofs.Tryz
namespace Go.Proofs.YtadllffeoibelaaGreat
set_option maxRecDepth 100000
set_option maxHeartbeats 32000000
set_option linter.all false
section
open Go.RowKit Go.Shelf
attribute [local go_sem ↓] Go.wp_at_zero Go.wp_at_succ Aq Au Av Aw
attribute [local go_sem] BE BL BM BN AR AX AU
def EX(p:Nm)(l:List Vt):List Vt:=(Cc ((l.filter fun s=>decide (s.parent=p)).map fun v=>(v,([]:List UInt8)))).map (·.1)
theorem Kv(a b:Vt):Dd (a,([]:List UInt8)) (b,[])=Bf a b:=by
 unfold Dd;by_cases h:a=b
 ·subst h;rw[if_pos rfl,CA];rfl
 ·rw[if_neg h]
theorem WY:Ord Bf:=⟨fun _ _ h=>F9 h,fun x y z h h'=>by
 rw[<-Kv]at h h' ⊢;exact Ik.trans _ _ _ h h'⟩
theorem RL{p:Nm}{l s:List Vt}(hp:s.Perm (l.filter fun s=>decide (s.parent=p)))(hs:Asc Bf s):Da id s s.length=EX p l:=by
 have h1:=KP (f:=id) (f':=Prod.fst) (k:=fun v:Vt=>(v,([]:List UInt8))) (fun _=>rfl) s s.length;have h2:=M4 (l:=(l.filter fun s=>decide (s.parent=p)).map fun v=>(v,([]:List UInt8))) (s:=s.map fun v=>(v,([]:List UInt8))) (hp.map _) (by
  unfold Asc at hs ⊢;rw[List.pairwise_map];exact hs.imp fun h=>by rw[Kv];exact h)
 rw[Ab]at h2;unfold EX;rw[<-h2,<-h1,List.map_map];exact(List.map_id' _).symm
def TE(l:List Vt)(p:Nm)(w:World)(q pb:Nat)(iv:Value)(wr:World):Prop:=
 ∃(i:Nat) (v:Value) (D:List Vt),iv= .int .i64 (i:Int)/\i<=l.length/\D.length<=i/\D=(l.take i).filter (fun s=>decide (s.parent=p))/\wr.ownsRow w.heap.size 46 22 v D.length (D.flatMap vtc)/\Wx w wr/\Blk wr q 24 p.cells/\Blk wr pb 56 #[v]
def RM(D:List Vt)(w3:World)(v iv:Value)(wr:World):Prop:=
 ∃(i:Nat) (O:List Vt),iv= .int .i64 (i:Int)/\i<=D.length/\O.length<=i/\O=Da id D i/\wr.ownsRow w3.heap.size 46 22 v O.length (O.flatMap vtc)/\Wx w3 wr
end
section
open Go.RowKit
attribute [local go_sem ↓] Go.wp_at_zero Go.wp_at_succ Aq Au Av Aw
attribute [local go_sem] BE BL BM BN AR AX AU
def Em(M:Int)(O:List Vt)(v:Vt):Bool:=decide (v.kind<=4)&&((xOf M).testBit v.signer.toNat&&DD M (Bd (Ae (xOf M) 10)) v O)
def CP(M:Int)(D:List Vt):List Vt:=D.foldl (fun O v=>if Em M O v=true then O++[v]else O) []
theorem Px{M:Int}{D:List Vt}{v:Vt}{b:Bool}(hk:v.kind<=4)(h:C4 M (Bd (Ae (xOf M) 10)) v (CP M D) b):CP M (D++[v])=if b=true then CP M D++[v]else CP M D:=by
 unfold C4 at h;unfold CP;rw[List.foldl_append];show(if Em M _ v=true then _ else _)=_;unfold Em;rw[h,decide_eq_true hk,Bool.true_and];rfl
theorem RN{p:Nm}{l:List Vt}{v:Vt}(h:v∈EX p l):v∈l/\v.parent=p:=by
 obtain⟨y,hy,rfl⟩:=List.mem_map.1 h;have h1:=(DC _).sub y hy;obtain⟨u,hu,rfl⟩:=List.mem_map.1 h1;obtain⟨h2,h3⟩:=List.mem_filter.1 hu;exact⟨h2,of_decide_eq_true h3⟩
end
section
open Go.RowKit Go.Shelf
attribute [local go_sem ↓] Go.wp_at_zero Go.wp_at_succ Aq Au Av Aw Ij
attribute [local go_sem] BE BL BM BN LG AR AX AU
def slF(s:Nat)(l:List Vt):List Vt:=l.filter fun x=>decide (x.slot=(s:Int))&&decide (x.kind<=4)
theorem LU{s:Nat}{l:List Vt}{x:Vt}(h:x∈slF s l):x∈l/\x.slot=(s:Int)/\x.kind<=4:=by
 unfold slF at h;obtain⟨h1,h2⟩:=List.mem_filter.1 h;rw[Bool.and_eq_true,decide_eq_true_eq,decide_eq_true_eq]at h2;exact⟨h1,h2⟩
theorem JY{s:Nat}{l:List Vt}{i:Nat}{x:Vt}(hx:l[i]? =some x):slF s (l.take (i+1))=slF s (l.take i)++if(decide (x.slot=(s:Int))&&decide (x.kind<=4))=true then[x]else[]:=by
 unfold slF;rw[Ah,hx,List.filter_append];by_cases h:(decide (x.slot=(s:Int))&&decide (x.kind<=4))=true <;> simp[h]
theorem TF{s:Nat}{l:List Vt}{i:Nat}{x:Vt}(hx:l[i]? =some x)(h1:x.slot=(s:Int))(h2:x.kind<=4):slF s (l.take (i+1))=slF s (l.take i)++[x]:=by
 rw[JY hx,if_pos (by simp[h1,h2])]
theorem RO{s:Nat}{l:List Vt}{i:Nat}{x:Vt}(hx:l[i]? =some x)(h2:¬x.kind<=4):slF s (l.take (i+1))=slF s (l.take i):=by
 rw[JY hx,if_neg (by simp;omega),List.append_nil]
theorem RP{s:Nat}{l:List Vt}{i:Nat}{x:Vt}(hx:l[i]? =some x)(h2:¬x.slot=(s:Int)):slF s (l.take (i+1))=slF s (l.take i):=by
 rw[JY hx,if_neg (by simp[h2]),List.append_nil]
def kyO(s:Nat)(x:Vt):Oc:=⟨(s:Int),x.round,x.choice,x.value⟩
def Ds(s:Nat)(O:List Vt)(kl:List (Oc×Value)):Prop:=∀x∈O,x.kind=4->x.choice≠2->∃S:Nat,BR (kyO s x) kl=some (.int .i64 (S:Int))/\S.testBit x.signer.toNat=true
def RQ(M:Int)(s:Nat)(O:List Vt)(x:Vt):Prop:=∃S:Nat,(∀y∈O,y.kind=4->y.choice≠2->kyO s y=kyO s x->S.testBit y.signer.toNat=true)/\Ae (xOf (S:Int)) 10<Bd (Ae (xOf M) 10)
def Hd(M:Int)(L:List Oc)(p:Oc×Value):Prop:=p.1∈L∨∀S:Nat,p.2= .int .i64 (S:Int)->Ae (xOf (S:Int)) 10<Bd (Ae (xOf M) 10)
theorem Hd.snoc{M:Int}{L:List Oc}{k:Oc}{v:Value}{p:Oc×Value}(h:Hd M L p∨p=(k,v)):Hd M (L++[k]) p:=by
 rcases h with(h|h)|rfl
 ·exact .inl (BB _ h)
 ·exact .inr h
 ·exact .inl (by simp)
theorem Hd.fail{M:Int}{L:List Oc}{k:Oc}{S:Nat}{p:Oc×Value}(hq:Ae (xOf (S:Int)) 10<Bd (Ae (xOf M) 10))(h:Hd M L p∨p=(k,.int .i64 (S:Int))):Hd M L p:=by
 rcases h with h|rfl
 ·exact h
 ·refine .inr fun S' hS'=>?_
  have e:S=S':=by
   simp only[Value.int.injEq,true_and]at hS';omega
  rw[<-e];exact hq
theorem Ds.skip{s:Nat}{O:List Vt}{i:Nat}{x:Vt}{kl:List (Oc×Value)}(h:Ds s (O.take i) kl)(hx:O[i]? =some x)(hn:¬x.kind=4∨x.choice=2):Ds s (O.take (i+1)) kl:=by
 intro y hy h4 h2;rw[Ah,hx]at hy;rcases AP.1 hy with hy|hy
 ·exact h y hy h4 h2
 ·have:y=x:=by simpa using hy
  subst this;rcases hn with hn|hn
  ·exact absurd h4 hn
  ·exact absurd hn h2
theorem Ds.step{s:Nat}{O:List Vt}{i:Nat}{x:Vt}{kl kl5 kl6:List (Oc×Value)}{S sn:Nat}{k:Oc}(hkk:k=kyO s x)(h:Ds s (O.take i) kl)(hx:O[i]? =some x)(hsn:x.signer=(sn:Int))(h6:kl6=CJ k (.int .i64 ((S|||2^sn:Nat):Int)) kl5)(h5:∀k',BR k' kl5=if k'=k then some ((BR k kl).getD (.int .i64 0))else BR k' kl)(hS:(BR k kl).getD (.int .i64 0)= .int .i64 (S:Int)):Ds s (O.take (i+1)) kl6:=by
 subst hkk;intro y hy h4 h2;rw[Ah,hx]at hy;rw[h6,Cs];by_cases hk:kyO s y=kyO s x
 ·rw[if_pos hk];refine⟨_,rfl,?_⟩;rw[Nat.testBit_or,Bool.or_eq_true,Nat.testBit_two_pow];rcases AP.1 hy with hy|hy
  ·obtain⟨S',h7,h8⟩:=h y hy h4 h2;rw[hk]at h7;rw[h7,Option.getD_some]at hS;simp only[Value.int.injEq,true_and]at hS;have:S'=S:=by omega
   rw[<-this];exact .inl h8
  ·have:y=x:=by simpa using hy
   subst this;right;rw[hsn];simp
 ·rw[if_neg hk,h5,if_neg hk];rcases AP.1 hy with hy|hy
  ·exact h y hy h4 h2
  ·have:y=x:=by simpa using hy
   subst this;exact absurd rfl hk
theorem Ds.fin{M:Int}{s:Nat}{O:List Vt}{kl:List (Oc×Value)}{L:List Oc}(h:Ds s O kl)(hv:∀p∈kl,Hd M L p):∀x∈O,x.kind=4->x.choice≠2->kyO s x∈L∨RQ M s O x:=by
 intro x hx h4 h2;obtain⟨S,h5,h6⟩:=h x hx h4 h2;rcases hv _ (E6 _ _ _ h5)with h7|h7
 ·exact .inl h7
 ·refine .inr ⟨S,fun y hy hy4 hy2 hk=>?_,h7 S rfl⟩;obtain⟨S',h8,h9⟩:=h y hy hy4 hy2;rw[hk,h5]at h8;simp only[Option.some.injEq,Value.int.injEq,true_and]at h8;have:S=S':=by omega
  rw[this];exact h9
theorem Od{op:Oper}{a:Act}{K:Act->World->Prop}{Q:Exit->Act->World->Prop}(x y:Operand)(ho:op.op= .mapEntry 178 x y)(m:Nat)(k:Oc)(hx:a.eval x= .map (some m))(hy:a.eval y=k.val){w:World}{kl:List (Oc×Value)}(h:Bj Oc.val w m kl)(hK:∀(w':World) (b:Nat) (v:Value) (kl':List (Oc×Value)),KR Oc.val w' m kl' k b->(∀k',BR k' kl'=if k'=k then some ((BR k kl).getD (.int .i64 0))else BR k' kl)->Upd k (.int .i64 0) kl kl'->kl'.length<=kl.length+1->w.grownBy w' (some m)->w'.heap.size=w.heap.size->K (a.put op.dst (.tuple #[v,goInt (b:Int)])) w'):op.wp prog a w K Q:=by
 obtain⟨w',b,v,kl',hr,h1,h2,h3,h4,h5,h6⟩:=h.entryX UR underlying178 (.int .i64 0) GM k;refine B9 (w':=w') (.tuple #[v,goInt (b:Int)]) ?_ (hK w' b v kl' h1 h2 h3 h4 h5 h6);unfold execOp;rw[ho];simp only[hx,hy];simp[hr,Result.andThen]
theorem Oe{op:Oper}{a:Act}{K:Act->World->Prop}{Q:Exit->Act->World->Prop}(x y z:Operand)(ho:op.op= .entryStore 178 x y z)(m b:Nat)(k:Oc)(v:Value)(hx:a.eval x= .map (some m))(hy:a.eval y=goInt (b:Int))(hz:a.eval z=v){w:World}{kl:List (Oc×Value)}(h:KR Oc.val w m kl k b)(hK:∀(w':World) (kl':List (Oc×Value)),kl'=CJ k v kl->Bj Oc.val w' m kl'->Upd k v kl kl'->kl'.length=kl.length->w.grownBy w' (some m)->w'.heap.size=w.heap.size->K (a.put op.dst undef) w'):op.wp prog a w K Q:=by
 obtain⟨w',hr,h1,h2,h3,h4,h5⟩:=h.store (P:=prog) 178 v;refine LT (w':=w') ?_ (hK w' _ rfl h1 h2 h3 h4 h5);unfold execOp;rw[ho];simp only[hx,hy,hz];simp[hr,Result.andThen]
def Vw(l:List Vt)(s:Nat)(w:World)(v iv:Value)(wr:World):Prop:=
 ∃(i:Nat) (D:List Vt),iv= .int .i64 (i:Int)/\i<=l.length/\D.length<=i/\D=slF s (l.take i)/\wr.ownsRow w.heap.size 46 22 v D.length (D.flatMap vtc)/\Wx w wr
def Vx(M:Int)(s:Nat)(O:List Vt)(m:Nat)(w:World)(iv:Value)(wr:World):Prop:=
 ∃(i:Nat) (kl:List (Oc×Value)),iv= .int .i64 (i:Int)/\i<=O.length/\kl.length<=i/\Cu M (s:Int) O kl/\Ds s (O.take i) kl/\Bj Oc.val wr m kl/\w.grownBy wr (some m)
def Vy(M:Int)(s:Nat)(O:List Vt)(m r pb:Nat)(kl:List (Oc×Value))(w:World)(wr:World):Prop:=
 ∃(cnt:Nat) (v:Value) (L:List Oc),C5 Oc.val wr m r kl cnt (Hd M L)/\Blk wr pb 103 #[v]/\L.length+cnt<=kl.length/\(∀o∈L,o.slot=(s:Int)/\Kk (xOf M) O o.round o.choice o.value)/\wr.ownsRow w.heap.size 142 11 v L.length (L.flatMap occ)/\Wx w wr
end
section
open Go.RowKit Go.Shelf
section
variable {α:Type}{c:Bc α}{t:TypeId}{w0:World}{g n f F:Nat}{sb lb:Array Value}{lt:α->α->Bool}{l0:List α}
structure LV (c:Bc α)(t:TypeId)(w0:World)(g n F:Nat)(lb:Array Value)(lt:α->α->Bool)(l0:List α):Prop where
 eg:∀args w,(callFunc F args).run prog w= .ok (.enter F args) w
 le:Fi c t w0 g l0 lt F lb
 asc:∀(i j:Nat) (x y:α),i<j->l0[i]? =some x->l0[j]? =some y->lt y x=false
 row:Bv c t w0 g l0 w0
 len:l0.length=n
 small:n<=1000000
theorem LV.less{V:World}(H:LV c t w0 g n F lb lt l0)(hV:Wx w0 V)(i j:Nat)(hi:i<n)(hj:j<i):Calls prog F (#[.int .i64 (i:Int),.int .i64 (j:Int)]++lb) V fun e w'=>e= .returned (.bool false)/\Wx V w':=by
 have hl:=H.len;obtain⟨x,hx⟩:∃x,l0[i]? =some x:=⟨_,AE (by omega)⟩;obtain⟨y,hy⟩:∃y,l0[j]? =some y:=⟨_,AE (by omega)⟩;refine(H.le V l0 i j x y (H.row.below hV) (List.Perm.refl _) hx hy).mono ?_;rintro e w' ⟨rfl,hb⟩;exact⟨by rw[H.asc j i y x hj hy hx],hb⟩
theorem BA{A B C:World}(h:Wx A B)(h':Wx B C):Wx A C:=h.trans (h'.mono h.size)
theorem LW(H:LV c t w0 g n F lb lt l0)(sp a b:Nat)(w:World)(hw:Wx w0 w)(hab:a<b)(hb:b<n):Calls prog 279 #[.agg #[.func (.func F) #[] lb,.func (.func f) #[] sb],.int .i64 (a:Int),.int .i64 (b:Int),(.pointer (some ⟨sp,0,none⟩))] w fun e w'=>e= .returned (.tuple #[.int .i64 (a:Int),.int .i64 (b:Int)])/\Wx w w':=by
 have HH:=AA H;have eg:=H.eg;have hn6:=H.small;obtain⟨B,hB⟩:=Wr (w.alloc (.cells #[.func (.func F) #[] lb,.func (.func f) #[] sb] 190));have hBx:Blk B w.heap.size 190 #[.func (.func F) #[] lb,.func (.func f) #[] sb]:=by rw[hB];exact Blk.new _ _ _
 have hwB:Wx w B:=by rw[hB];exact(AC _ _).alloc (AB _) _
 have hSB:Wx w0 B:=BA hw hwB;have HC:Hid (∀V,Wx B V->V.cell? ⟨w.heap.size,0,none⟩=some (.func (.func F) #[] lb)/\V.cell? ⟨w.heap.size,1,none⟩=some (.func (.func f) #[] sb)):=fun V h=>⟨(hBx.below h hBx.lt).cell 0,(hBx.below h hBx.lt).cell 1⟩
 obtain⟨c0,c1⟩:=HC.out B (AC _ _);have HB:=AA hB;have HS:=AA hSB;have HW:=AA hwB;have HR:Hid (Wx B B):=AC _ _;clear hw hB hBx hSB hwB H;go_enter func279,ntmps279;go_upto_region 1 with fail
 simp only[<-HB.out];go_wp2_with fail
 refine(HH.out.less HS.out b a hb hab).mono ?_;rintro en w2 ⟨rfl,hb2⟩;have HR2:Hid (Wx w w2):=BA HW.out hb2;clear hb2 c0 c1;go_wp2;go_ret2;exact⟨rfl,HR2.out⟩
theorem LX(H:LV c t w0 g n F lb lt l0)(sp a b d:Nat)(w:World)(hw:Wx w0 w)(hab:a<b)(hbd:b<d)(hd:d<n):Calls prog 271 #[.agg #[.func (.func F) #[] lb,.func (.func f) #[] sb],.int .i64 (a:Int),.int .i64 (b:Int),.int .i64 (d:Int),(.pointer (some ⟨sp,0,none⟩))] w fun e w'=>e= .returned (.int .i64 (b:Int))/\Wx w w':=by
 have hbn:b<n:=by omega
 have HH:=AA H;have eg:=H.eg;have hn6:=H.small;obtain⟨B,hB⟩:=Wr (w.alloc (.cells #[.func (.func F) #[] lb,.func (.func f) #[] sb] 190));have hBx:Blk B w.heap.size 190 #[.func (.func F) #[] lb,.func (.func f) #[] sb]:=by rw[hB];exact Blk.new _ _ _
 have hwB:Wx w B:=by rw[hB];exact(AC _ _).alloc (AB _) _
 have hSB:Wx w0 B:=BA hw hwB;have HC:Hid (∀V,Wx B V->V.cell? ⟨w.heap.size,0,none⟩=some (.func (.func F) #[] lb)/\V.cell? ⟨w.heap.size,1,none⟩=some (.func (.func f) #[] sb)):=fun V h=>⟨(hBx.below h hBx.lt).cell 0,(hBx.below h hBx.lt).cell 1⟩
 obtain⟨c0,c1⟩:=HC.out B (AC _ _);have HB:=AA hB;have HS:=AA hSB;have HW:=AA hwB;have HR:Hid (Wx B B):=AC _ _;clear hw hB hBx hSB hwB H;go_enter func271,ntmps271;go_upto_region 1 with fail
 simp only[<-HB.out];go_upto_region 2 with(go_at_call 279;refine(LW HH.out sp a b _ (BA HS.out HR.out) hab hbn).mono ?_;rintro en w2 ⟨rfl,hs⟩;have HR2:Hid (Wx B w2):=BA HR.out hs;obtain⟨c0,c1⟩:=HC.out _ HR2.out;clear hs)
 go_upto_region 3 with(go_at_call 279;refine(LW HH.out sp b d _ (BA HS.out HR2.out) hbd hd).mono ?_;rintro en w3 ⟨rfl,hs⟩;have HR3:Hid (Wx B w3):=BA HR2.out hs;obtain⟨c0,c1⟩:=HC.out _ HR3.out;clear hs)
 go_wp2_with (go_at_call 279;refine(LW HH.out sp a b _ (BA HS.out HR3.out) hab hbn).mono ?_;rintro en w4 ⟨rfl,hs⟩;have HR4:Hid (Wx B w4):=BA HR3.out hs;obtain⟨c0,c1⟩:=HC.out _ HR4.out;clear hs)
 go_ret;exact⟨rfl,BA HW.out HR4.out⟩
theorem LY(H:LV c t w0 g n F lb lt l0)(sp a:Nat)(w:World)(hw:Wx w0 w)(ha:1<=a)(han:a+1<n):Calls prog 270 #[.agg #[.func (.func F) #[] lb,.func (.func f) #[] sb],.int .i64 (a:Int),(.pointer (some ⟨sp,0,none⟩))] w fun e w'=>e= .returned (.int .i64 (a:Int))/\Wx w w':=by
 have HM:Hid (∀V,Wx w0 V->Calls prog 271 #[.agg #[.func (.func F) #[] lb,.func (.func f) #[] sb],.int .i64 ((a:Int)-1),.int .i64 (a:Int),.int .i64 ((a:Int)+1),(.pointer (some ⟨sp,0,none⟩))] V fun e w'=>e= .returned (.int .i64 (a:Int))/\Wx V w'):=fun V hV=>by
  have h:=LX (f:=f) (sb:=sb) H sp (a-1) a (a+1) V hV (by omega) (by omega) (by omega);rwa[show((a-1:Nat):Int)=(a:Int)-1 from by omega,show((a+1:Nat):Int)=(a:Int)+1 from by omega]at h
 have HH:=AA H;have eg:=H.eg;have hn6:=H.small;obtain⟨B,hB⟩:=Wr (w.alloc (.cells #[.func (.func F) #[] lb,.func (.func f) #[] sb] 190));have hBx:Blk B w.heap.size 190 #[.func (.func F) #[] lb,.func (.func f) #[] sb]:=by rw[hB];exact Blk.new _ _ _
 have hwB:Wx w B:=by rw[hB];exact(AC _ _).alloc (AB _) _
 have hSB:Wx w0 B:=BA hw hwB;have HC:Hid (∀V,Wx B V->V.cell? ⟨w.heap.size,0,none⟩=some (.func (.func F) #[] lb)/\V.cell? ⟨w.heap.size,1,none⟩=some (.func (.func f) #[] sb)):=fun V h=>⟨(hBx.below h hBx.lt).cell 0,(hBx.below h hBx.lt).cell 1⟩
 obtain⟨c0,c1⟩:=HC.out B (AC _ _);have HB:=AA hB;have HS:=AA hSB;have HW:=AA hwB;have HR:Hid (Wx B B):=AC _ _;clear hw hB hBx hSB hwB H;go_enter func270,ntmps270;go_upto_region 1 with fail
 simp only[<-HB.out];go_wp2_with (go_at_call 271;refine(HM.out _ (BA HS.out HR.out)).mono ?_;rintro en w2 ⟨rfl,hs⟩;have HR2:Hid (Wx B w2):=BA HR.out hs;obtain⟨c0,c1⟩:=HC.out _ HR2.out;clear hs)
 go_ret;exact⟨rfl,BA HW.out HR2.out⟩
theorem Uq(H:LV c t w0 g n F lb lt l0)(a b:Nat)(w:World)(hw:Wx w0 w)(hab:a+12<b)(hbn:b<=n):Calls prog 231 #[.agg #[.func (.func F) #[] lb,.func (.func f) #[] sb],.int .i64 (a:Int),.int .i64 (b:Int)] w fun e w'=>∃x:Nat,e= .returned (.tuple #[.int .i64 (x:Int),.int .i64 1])/\Wx w w':=by
 obtain⟨L,hbL⟩:∃L,b=a+L:=⟨b-a,by omega⟩;have hL:((b:Int)-(a:Int))=(L:Int):=by omega
 obtain⟨q,hq⟩:=Wr (L/4);have hq1:4*q<=L/\L<4*q+4:=by omega
 have hq2:(L:Int)/4=(q:Int):=by omega
 have hL12:12<L:=by omega
 have dL8:decide (8<=(L:Int))=true:=by simp;omega
 have hbb:a+L<=n:=by omega
 clear hq hbL;have HH:=AA H;have eg:=H.eg;have hn6:=H.small;obtain⟨B,hB⟩:=Wr (w.alloc (.cells #[.func (.func F) #[] lb,.func (.func f) #[] sb] 190));have hBx:Blk B w.heap.size 190 #[.func (.func F) #[] lb,.func (.func f) #[] sb]:=by rw[hB];exact Blk.new _ _ _
 have hwB:Wx w B:=by rw[hB];exact(AC _ _).alloc (AB _) _
 have hSB:Wx w0 B:=BA hw hwB;have HC:Hid (∀V,Wx B V->V.cell? ⟨w.heap.size,0,none⟩=some (.func (.func F) #[] lb)/\V.cell? ⟨w.heap.size,1,none⟩=some (.func (.func f) #[] sb)):=fun V h=>⟨(hBx.below h hBx.lt).cell 0,(hBx.below h hBx.lt).cell 1⟩
 have HB:=AA hB;have HS:=AA hSB;have HW:=AA hwB;obtain⟨sp,hsp⟩:=Wr B.heap.size;obtain⟨B2,hB2⟩:=Wr (B.alloc (.cells #[.int .i64 0] 3));have hS2:Wx B B2:=by rw[hB2];exact(AC _ _).alloc (AB _) _
 have hP2:Blk B2 sp 3 #[.int .i64 0]:=by rw[hB2,hsp];exact Blk.new _ _ _
 have HZ:Hid (∀V,Wx B2 V->V.cell? ⟨sp,0,none⟩=some (.int .i64 0)):=fun V h=>(hP2.below h hP2.lt).cell 0
 have HC2:Hid (∀V,Wx B2 V->V.cell? ⟨w.heap.size,0,none⟩=some (.func (.func F) #[] lb)/\V.cell? ⟨w.heap.size,1,none⟩=some (.func (.func f) #[] sb)):=fun V h=>HC.out V (BA hS2 h)
 obtain⟨c0,c1⟩:=HC2.out B2 (AC _ _);have HSp:=AA hsp;have HB2:=AA hB2;have HW2:Hid (Wx w B2):=BA hwB hS2;have HS2:Hid (Wx w0 B2):=BA hSB hS2;have HR:Hid (Wx B2 B2):=AC _ _;clear hsp hB2 hS2 hP2 HC HS HW;clear hw hB hBx hSB hwB H;go_enter func231,ntmps231;go_upto_region 1 with fail
 simp only[<-HB.out];go_upto_region 3 with fail
 simp only[<-HB2.out,<-HSp.out];by_cases h50:50<=L
 ·have d50:decide (50<=(L:Int))=true:=by simp;omega
  go_upto_region 9 with(go_at_call 270;have hl:=LY (f:=f) (sb:=sb) HH.out sp (a+q) _ (BA HS2.out HR.out) (by omega) (by omega);push_cast at hl;refine hl.mono ?_;clear hl;rintro en w5 ⟨rfl,hs⟩;have HR5:Hid (Wx B2 w5):=BA HR.out hs;obtain⟨c0,c1⟩:=HC2.out _ HR5.out;clear hs)
  go_upto_region 10 with(go_at_call 270;have hl:=LY (f:=f) (sb:=sb) HH.out sp (a+q*2) _ (BA HS2.out HR5.out) (by omega) (by omega);push_cast at hl;refine hl.mono ?_;clear hl;rintro en w6 ⟨rfl,hs⟩;have HR6:Hid (Wx B2 w6):=BA HR5.out hs;obtain⟨c0,c1⟩:=HC2.out _ HR6.out;clear hs)
  go_upto_region 11 with(go_at_call 270;have hl:=LY (f:=f) (sb:=sb) HH.out sp (a+q*3) _ (BA HS2.out HR6.out) (by omega) (by omega);push_cast at hl;refine hl.mono ?_;clear hl;rintro en w7 ⟨rfl,hs⟩;have HR7:Hid (Wx B2 w7):=BA HR6.out hs;obtain⟨c0,c1⟩:=HC2.out _ HR7.out;clear hs)
  go_upto_region 12 with(go_at_call 271;have hl:=LX (f:=f) (sb:=sb) HH.out sp (a+q) (a+q*2) (a+q*3) _ (BA HS2.out HR7.out) (by omega) (by omega) (by omega);push_cast at hl;refine hl.mono ?_;clear hl;rintro en w9 ⟨rfl,hs⟩;have HR9:Hid (Wx B2 w9):=BA HR7.out hs;obtain⟨c0,c1⟩:=HC2.out _ HR9.out;clear hs)
  have z0:=HZ.out _ HR9.out;go_wp2;go_ret2;exact⟨a+q*2,by go_num,BA HW2.out HR9.out⟩
 ·have d50:decide (50<=(L:Int))=false:=by simp;omega
  go_upto_region 12 with(go_at_call 271;have hl:=LX (f:=f) (sb:=sb) HH.out sp (a+q) (a+q*2) (a+q*3) _ (BA HS2.out HR.out) (by omega) (by omega) (by omega);push_cast at hl;refine hl.mono ?_;clear hl;rintro en w9 ⟨rfl,hs⟩;have HR9:Hid (Wx B2 w9):=BA HR.out hs;obtain⟨c0,c1⟩:=HC2.out _ HR9.out;clear hs)
  have z0:=HZ.out _ HR9.out;go_wp2;go_ret2;exact⟨a+q*2,by go_num,BA HW2.out HR9.out⟩
theorem RR(H:LV c t w0 g n F lb lt l0)(a b:Nat)(w:World)(hw:Wx w0 w)(hab:a+12<b)(hbn:b<=n):Calls prog 233 #[.agg #[.func (.func F) #[] lb,.func (.func f) #[] sb],.int .i64 (a:Int),.int .i64 (b:Int)] w fun e w'=>e= .returned (.bool true)/\Wx w w':=by
 have HH:=AA H;have eg:=H.eg;have hn6:=H.small;obtain⟨B,hB⟩:=Wr (w.alloc (.cells #[.func (.func F) #[] lb,.func (.func f) #[] sb] 190));have hBx:Blk B w.heap.size 190 #[.func (.func F) #[] lb,.func (.func f) #[] sb]:=by rw[hB];exact Blk.new _ _ _
 have hwB:Wx w B:=by rw[hB];exact(AC _ _).alloc (AB _) _
 have hSB:Wx w0 B:=BA hw hwB;have HC:Hid (∀V,Wx B V->V.cell? ⟨w.heap.size,0,none⟩=some (.func (.func F) #[] lb)/\V.cell? ⟨w.heap.size,1,none⟩=some (.func (.func f) #[] sb)):=fun V h=>⟨(hBx.below h hBx.lt).cell 0,(hBx.below h hBx.lt).cell 1⟩
 obtain⟨c0,c1⟩:=HC.out B (AC _ _);have HB:=AA hB;have HS:=AA hSB;have HW:=AA hwB;have HR:Hid (Wx B B):=AC _ _;clear hw hB hBx hSB hwB H;go_enter func233,ntmps233;go_upto_region 1 with fail
 simp only[<-HB.out];go_upto_region 3 with fail
 go_loopw [7,8] (fun iv jv wr=>iv= .int .i64 ((a+1:Nat):Int)/\jv= .int .i64 0/\wr=B) (fun _ _ _=>0)
 case atStart=>exact⟨by go_num,rfl,rfl⟩
 case round=>
  obtain⟨rfl,rfl,hwr⟩:=hrel;replace hwr:=hwr.symm;subst hwr;go_wp2
  go_loopw [7] (fun iv wx=>∃i:Nat,iv= .int .i64 (i:Int)/\a+1<=i/\i<=b/\Hid (Wx B wx)) (fun iv _=>b-(intOf iv).toNat)
  case atStart=>exact⟨a+1,rfl,by omega,by omega,HR⟩
  case round=>
   obtain⟨i,rfl,hi,hib,HP⟩:=hrel;obtain⟨c0,c1⟩:=HC.out _ HP.out;by_cases h1:i<b
   ·have d1:=Wu (show i<b by omega)
    go_wp2_with fail
    have hl:=HH.out.less (BA HS.out HP.out) i (i-1) (by omega) (by omega);try push_cast at hl
    rw[show((i-1:Nat):Int)=(i:Int)-1 from by omega]at hl;refine hl.mono ?_;clear hl;rintro en w3 ⟨rfl,hp⟩;have HP3:Hid (Wx B w3):=BA HP.out hp;clear hp;go_wp2;go_roundw
    case rel=>exact⟨i+1,by go_num,by omega,by omega,HP3⟩
    case measure=>simp[intOf];omega
   ·have d1:=Wv (show b<=i by omega)
    have e1:((i:Int)==(b:Int))=true:=by simp;omega
    go_wp2;go_ret;exact⟨rfl,BA HW.out HP.out⟩
theorem WZ(H:LV c t w0 g n F lb lt l0)(a b L:Nat)(w:World)(hw:Wx w0 w)(hab:a+12<b)(hbn:b<=n)(hL:0<L):Calls prog 169 #[.agg #[.func (.func F) #[] lb,.func (.func f) #[] sb],.int .i64 (a:Int),.int .i64 (b:Int),.int .i64 (L:Int)] w fun e w'=>e= .returned (.tuple #[])/\Wx w w':=by
 have HH:=AA H;have eg:=H.eg;have hn6:=H.small;obtain⟨B,hB⟩:=Wr (w.alloc (.cells #[.func (.func F) #[] lb,.func (.func f) #[] sb] 190));have hBx:Blk B w.heap.size 190 #[.func (.func F) #[] lb,.func (.func f) #[] sb]:=by rw[hB];exact Blk.new _ _ _
 have hwB:Wx w B:=by rw[hB];exact(AC _ _).alloc (AB _) _
 have hSB:Wx w0 B:=BA hw hwB;have HC:Hid (∀V,Wx B V->V.cell? ⟨w.heap.size,0,none⟩=some (.func (.func F) #[] lb)/\V.cell? ⟨w.heap.size,1,none⟩=some (.func (.func f) #[] sb)):=fun V h=>⟨(hBx.below h hBx.lt).cell 0,(hBx.below h hBx.lt).cell 1⟩
 obtain⟨c0,c1⟩:=HC.out B (AC _ _);have HB:=AA hB;have HS:=AA hSB;have HW:=AA hwB;have HR:Hid (Wx B B):=AC _ _;clear hw hB hBx hSB hwB H;go_enter func169,ntmps169;go_upto_region 1 with fail
 simp only[<-HB.out];have d12:decide ((b:Int)-(a:Int)<=12)=false:=by simp;omega
 have e0:((L:Int)==0)=false:=by simp;omega
 go_upto_region 3 with fail
 go_loopw [1,2,3,8,9] (fun av bv lv xv yv wr=>av= .int .i64 (a:Int)/\bv= .int .i64 (b:Int)/\lv= .int .i64 (L:Int)/\xv= .bool true/\yv= .bool true/\wr=B) (fun _ _ _ _ _ _=>0)
 case atStart=>exact⟨rfl,rfl,rfl,rfl,rfl,rfl⟩
 case round=>
  obtain⟨rfl,rfl,rfl,rfl,rfl,hwr⟩:=hrel;replace hwr:=hwr.symm;subst hwr;go_upto_region 12 with(go_at_call 231;refine(Uq HH.out a b _ (BA HS.out HR.out) hab hbn).mono ?_;rintro en w2 ⟨x,rfl,hs⟩;have HR2:Hid (Wx B w2):=BA HR.out hs;obtain⟨c0,c1⟩:=HC.out _ HR2.out;clear hs)
  go_wp2_with (go_at_call 233;refine(RR HH.out a b _ (BA HS.out HR2.out) hab hbn).mono ?_;rintro en w3 ⟨rfl,hs⟩;have HR3:Hid (Wx B w3):=BA HR2.out hs;obtain⟨c0,c1⟩:=HC.out _ HR3.out;clear hs)
  first
   |go_end0
   |refine bodyPost_ret (results_none rfl _ _ _) rfl ?_
  exact⟨rfl,BA HW.out HR3.out⟩
end
theorem Nc{n:Nat}(h:0<n):0<Lib.bitLen n:=by
 unfold Lib.bitLen Lib.bitLenAux;split <;> omega
theorem Ur{α:Type}{lt:α->α->Bool}{l:List α}(h:Asc lt l)(i j:Nat)(x y:α)(hij:i<j)(hx:l[i]? =some x)(hy:l[j]? =some y):lt y x=false:=by
 obtain⟨hi,rfl⟩:=AF.1 hx;obtain⟨hj,rfl⟩:=AF.1 hy;exact List.pairwise_iff_getElem.1 h i j hi hj hij
theorem Nd{α:Type}[Inhabited α]{F:Nat}{lb:Array Value}{lt:α->α->Bool}{t e:TypeId}{m:Nat}(S:SlT t e m)(c:Bc α)(hl:∀x,(c.enc x).length=m)(h1:∀x,∀v∈c.enc x,v.oneCell'=true)(ho:Ord lt)(eg:∀args w,(callFunc F args).run prog w= .ok (.enter F args) w)(l:List α)(g n cap:Nat)(w:World)(hle:Fi c e w g l lt F lb)(xZ:Blk w g e (l.flatMap c.enc++c.tail).toArray)(hn:l.length=n)(hsm:n<=1000000)(hs:n<=12∨Asc lt l):Calls prog 116 #[.iface t (.slice (some ⟨g,0,none⟩) n cap),.func (.func F) #[] lb] w fun e' w'=>e'= .returned (.tuple #[])/\∃l',Bv c e w g l' w'/\l'.Perm l/\Asc lt l':=by
 rcases Nat.lt_or_ge 12 n with h12|h12
 rotate_left
 ·exact JW S c hl h1 ho eg l g n cap w hle xZ hn h12
 have hs:Asc lt l:=by
  rcases hs with h|h
  ·omega
  ·exact h
 obtain⟨i,hi,hd⟩:=S.info;obtain⟨ie,h2,h3,h4⟩:=S.elem;have hb:Wx w (sliceWorld prog I0 t (some ⟨g,0,none⟩) n cap w):=((AC _ _).alloc (AB _) _).alloc (by simp) _;refine Any.sort_Slice_of_pdq Gs t e i ie hi hd S.packed h2 25 S.kind (some ⟨g,0,none⟩) n cap (by omega) (Fl n) (GK h4 n) (.func F) #[] lb w (fun w'=>∃l',Bv c e w g l' w'/\l'.Perm l/\Asc lt l') ?_;have HS:LV c e w g n F lb lt l:=⟨eg,hle,Ur hs,Bv.self xZ,hn,hsm⟩;exact(WZ HS 0 n (Lib.bitLen n) _ hb (by omega) (AB _) (Nc (by omega))).mono fun e' w' h=>⟨h.1,l,(Bv.self xZ).below (BA hb h.2),List.Perm.refl _,hs⟩
end
section
open Go.RowKit Go.Shelf
attribute [local go_sem ↓] Go.wp_at_zero Go.wp_at_succ Aq Au Av Aw
attribute [local go_sem] BE BL BM BN AR AX AU
theorem Of{α:Type}{f:α->Vt}{l:List α}:∀{i:Nat} {s:α},s∈Da f l i->s∈l
 |0,_,h=>by cases h
 |i+1,s,h=>by
  rw[Da]at h;rcases AP.1 h with h|h
  ·exact Of h
  ·rcases hx:l[i]? with _|x
   ·rw[hx]at h;cases h
   ·rw[hx]at h;dsimp only at h;split at h
    ·rw[AM.1 h];exact AN hx
    ·cases h
abbrev Fe(D:List Vt):Prop:=D.length<=12∨Asc Bf D
def TG(D:List Vt)(w:World)(pb:Nat)(v:Value)(e:Ending)(w3:World):Prop:=
 e= .returned (.tuple #[])/\Blk w3 pb 56 #[v]/\Wx w w3/\∃(l3:List Vt) (A:Option Addr) (c:Nat),v= .slice A l3.length c/\l3.Perm D/\(Fe D->Asc Bf l3)/\Rd w3 w3.heap.size A (l3.flatMap vtc)
theorem RS(w W:World)(pb:Nat)(v:Value)(D:List Vt)(xB:W.ownsRow w.heap.size 46 22 v D.length (D.flatMap vtc))(hb:Wx w W)(hpb:Blk W pb 56 #[v])(hsm:D.length<=1000000):Calls prog 116 #[.iface 56 v,.func (.func 221) #[] #[.pointer (some ⟨pb,0,none⟩)]] W (TG D w pb v):=by
 rcases Fm xB with⟨rfl,h0,_⟩|⟨g,cap,T,rfl,hg,xZ,zm⟩
 ·refine(IV JR 0 W).mono ?_;rintro e w3 ⟨rfl,hb3⟩;have hD:D=[]:=AQ h0;subst hD;exact⟨rfl,hpb.below hb3 hpb.lt,hb.trans (hb3.mono hb.size),[],none,0,rfl,List.Perm.refl _,fun _=>Asc.nil,Rd.nil⟩
 ·have hne:pb≠g:=by
   intro e;subst e;unfold Blk at hpb xZ;rw[hpb]at xZ;injection xZ with hh
   injection hh with _ ht
   exact absurd ht (by decide)
  have hl:=OK T pb g D.length cap D W hpb hne rfl;have key:Calls prog 116 #[.iface 56 (.slice (some ⟨g,0,none⟩) D.length cap),.func (.func 221) #[] #[.pointer (some ⟨pb,0,none⟩)]] W fun e w3=>e= .returned (.tuple #[])/\∃l',Bv ⟨vtc,T⟩ 46 W g l' w3/\l'.Perm D/\(Fe D->Asc Bf l'):=by
   by_cases h12:Fe D
   ·exact(Nd JR ⟨vtc,T⟩ (fun _=>rfl) (fun x v hv=>BH x hv) WY (fun args W=>JS args W) D g D.length cap W hl xZ rfl hsm h12).mono fun e w3 ⟨a,l',b,c,d⟩=>⟨a,l',b,c,fun _=>d⟩
   ·exact(IU JR ⟨vtc,T⟩ (fun _=>rfl) (by decide) (fun x v hv=>BH x hv) (fun args W=>JS args W) D g D.length cap W hl xZ rfl hsm).mono fun e w3 ⟨a,l',b,c⟩=>⟨a,l',b,c,fun h=>absurd h h12⟩
  refine key.mono ?_;rintro e w3 ⟨rfl,l3,hr3,hp3,ha3⟩;refine⟨rfl,hr3.box hpb hne,hb.grown hr3.kept hb.size (Wt hg),l3,_,cap,by rw[hp3.length_eq],hp3,ha3,?_⟩;refine Rd.mk hr3.blk.lt fun j u hu=>?_
  rw[hr3.blk.cell,Nat.zero_add,List.getElem?_toArray];show(l3.flatMap vtc++T)[j]? =some u;rw[List.getElem?_append_left (AF.1 hu).1,hu]
theorem RT(p:Nm)(A:Option Addr)(n c:Nat)(l:List Vt)(w:World)(hn:l.length=n)(hr:Rd w w.heap.size A (l.flatMap vtc))(hsm:n<=1000000):Calls prog 166 #[p.val,.slice A n c] w fun e w'=>∃(v:Value) (O:List Vt),e= .returned v/\(∀s∈O,s∈l/\s.parent=p)/\O.length<=n/\(Fe (l.filter fun s=>decide (s.parent=p))->O=EX p l)/\w'.ownsRow w.heap.size 46 22 v O.length (O.flatMap vtc)/\Wx w w':=by
 have HN:=AA hn;have HR:=AA hr;have zC:=AA (fun W pb v D h1 h2 h3 h4=>RS w W pb v D h1 h2 h3 h4);clear hn hr;go_enter func166,ntmps166;go_upto_region 2 with fail
 obtain⟨w1,hw1⟩:=Wr ((w.alloc (.cells p.cells 24)).alloc (.cells #[.slice none 0 0] 56));rw[<-hw1];have yK:Wx w w1:=by rw[hw1];exact((AC _ _).alloc (AB _) _).alloc (by simp) _
 have HB1:Hid (Blk w1 w.heap.size 24 p.cells):=by
  unfold Hid;rw[hw1];exact(Blk.new w _ _).alloc _
 have HB2:Hid (Blk w1 (w.heap.size+1) 56 #[.slice none 0 0]):=by
  unfold Hid;rw[hw1];have:=Blk.new (w.alloc (.cells p.cells 24)) 56 #[.slice none 0 0];simpa using this
 clear hw1;obtain⟨q,hq⟩:=Wr w.heap.size;obtain⟨pb,hpb⟩:=Wr (w.heap.size+1);rw[<-hpb,<-hq];rw[<-hpb]at HB2;rw[<-hq]at HB1;have hqp:q≠pb:=by omega
 have hqw:w.heap.size<=q:=by omega
 have hpw:w.heap.size<=pb:=by omega
 clear hq hpb;go_wp2
 go_loopw [13] (fun iv wr=>TE l p w q pb iv wr) (fun iv _=>n-(intOf iv).toNat)
 case atStart=>exact⟨0,_,[],rfl,Nat.zero_le _,Nat.zero_le _,by simp,⟨by simp,.inl ⟨rfl,rfl⟩⟩,yK,HB1.out,HB2.out⟩
 case round=>
  clear yK HB1 HB2;obtain⟨i,v,D,rfl,hin,hDi,hD,xB,hbw,hBq,hBp⟩:=hrel;rw[HN.out]at hin;have HD:=AA hD;have xF:=AA xB;have HBq:=AA hBq;have HBp:=AA hBp;have y1:AK wr q 0 8=some p.cells:=hBq.row 8 rfl;have y2:wr.cell? ⟨pb,0,none⟩=some v:=hBp.cell 0;have hqr:q<wr.heap.size:=hBq.lt;have hpr:pb<wr.heap.size:=hBp.lt;clear hD xB hBq hBp;by_cases hi:i<n
  ·have di:=Wu (show i<n by omega)
   obtain⟨x,hx⟩:∃x,l[i]? =some x:=⟨_,AE (by rw[HN.out];exact hi)⟩;obtain⟨b,o,rfl,hb,xH⟩:=HR.out.cells (by intro e;have:=AY vtc 22 l (CI l);rw[e,HN.out]at this;simp at this;omega);clear xH;have x1:AK wr b (o+i*22) 22=some x.cells:=(HR.out.below hbw).voteRow hx;have ya:Hid ((l.take (i+1)).filter (fun s=>decide (s.parent=p))=(l.take i).filter (fun s=>decide (s.parent=p))++(if x.parent=p then[x]else[])):=by
    unfold Hid;rw[Ah,hx,List.filter_append];by_cases h:x.parent=p <;> simp[h]
   clear hx;go_upto_region 5 with(refine AJ rfl 46 (.tmp 7) (.tmp 16) rfl wr.heap.size x.cells rfl rfl 46 Bk.cells (Blk.new wr _ _) (by rfl) (by kernel_rfl) (fun u hu=>BH x hu) ?_;intro w4 hB4 hg4 xb)
   have xJ:Hid (w4.ownsRow w.heap.size 46 22 v D.length (D.flatMap vtc)):=Ba (xF.out.alloc _) hg4 (fun k hk=>by
    injection hk with hk
    subst hk;right;intro e;have:=(xF.out.lt _ e).2;omega)
   have xI:Wx w w4:=(hbw.alloc hbw.size _).grown hg4 (AG hbw.size (by simp)) (Wt hbw.size);have hDO:Hid (Blk w4 q 24 p.cells):=(HBq.out.alloc _).kept hg4 (by intro e;injection e with e;omega);have yU:Hid (Blk w4 pb 56 #[v]):=(HBp.out.alloc _).kept hg4 (by intro e;injection e with e;omega);have hw4:w4.heap.size=wr.heap.size+1:=by rw[xb];simp
   obtain⟨z,hz⟩:=Wr wr.heap.size;rw[<-hz]at hB4 hw4 ⊢;have x2:AK w4 z 6 8=some x.parent.cells:=x.row_parent hB4;have x3:AK w4 z 0 22=some x.cells:=hB4.row 22 rfl;have y3:AK w4 q 0 8=some p.cells:=hDO.out.row 8 rfl;have y4:w4.cell? ⟨pb,0,none⟩=some v:=yU.out.cell 0;have y5:w4.frozen? ⟨pb,0,none⟩=false:=yU.out.frozen 0;clear hB4 hg4 xb x1 y1 y2 hz xF HBq HBp hbw hw4;obtain⟨k,hk⟩:=Wr (decide (x.parent=p));have e1:∀W,(Op.equalIn 10000 24 (.agg x.parent.cells) (.agg p.cells)).run prog W= .ok k W:=fun W=>by rw[hk];exact EW x.parent p W 9998
   have HK:=AA hk;clear hk;try go_frame
   cases k with
   |false=>
    go_wp2;go_roundw
    case rel=>exact⟨i+1,v,D,by go_num,by rw[HN.out];omega,by omega,(by rw[ya.out,if_neg (of_decide_eq_false HK.out.symm),List.append_nil];exact HD.out),xJ.out,xI,hDO.out,yU.out⟩
    case measure=>simp[intOf];omega
   |true=>
    have hxp:x.parent=p:=of_decide_eq_true HK.out.symm;have HXp:=AA hxp;clear hxp HK;go_wp2_with ((first
     |(refine BQ rfl 56 46 (.tmp 22) rfl x.cells rfl underlying56 (by kernel_rfl) (by decide) (by decide) ?_)
     |(at_builtin;refine Ar rfl (.tmp 21) (.tmp 23) _ rfl w.heap.size 46 (.agg Bk.cells) 22 64 underlying56 CE rfl (by decide) v D.length (D.flatMap vtc) rfl ?r0 (w4.heap.size+1) (some ⟨w4.heap.size,0,none⟩) 1 1 (vtc x) rfl ?r1 ?r2 ?r3 ?r4 ?r5 ?r6 ?_)))
    case r0=>exact xJ.out.alloc _
    case r1=>rfl
    case r2=>exact Rd.mk (by omega) (fun j u hu=>by rw[Nat.zero_add,(Blk.new w4 _ _).cell];simpa using hu)
    case r3=>exact fun u hu=>BH x hu
    case r4=>omega
    case r5=>unfold maxLen;omega
    case r6=>have:=xI.size;simp;omega
    intro v3 w3 xC hg3 zO;have hCc:some pb≠v.ownBlock:=CO xJ.out yU.out (by decide);have hGG:some q≠v.ownBlock:=CO xJ.out hDO.out (by decide);have HBq3:Hid (Blk w3 q 24 p.cells):=(hDO.out.alloc _).kept hg3 hGG;have hDQ:Hid (Blk w3 pb 56 #[v]):=(yU.out.alloc _).kept hg3 hCc;have hGH:some pb≠v3.ownBlock:=CO xC hDQ.out (by decide);have xT:Wx w w3:=BO (xI.alloc xI.size _) (xJ.out.alloc _) hg3;have y6:w3.cell? ⟨pb,0,none⟩=some v:=hDQ.out.cell 0;have y7:w3.frozen? ⟨pb,0,none⟩=false:=hDQ.out.frozen 0;obtain⟨g3,cap3,rfl⟩:=ownsRow_succ xC;have yH:=AA xC;clear xC hg3 zO hCc hGG;have HNe:=AA hGH;clear hGH;go_wp2;go_roundw
    case rel=>
     refine⟨i+1,_,D++[x],by go_num,by rw[HN.out];omega,by rw[AI];simp;omega,?_,?_,xT.setCell hpw _,HBq3.out.far hqp _,hDQ.out.put 0 _⟩
     ·rw[ya.out,if_pos HXp.out,<-HD.out]
     ·have h:=Ba yH.out (Bl (p:=⟨pb,0,none⟩) (Al w3 pb) rfl (.slice (some ⟨g3,0,none⟩) (D.length+1) cap3)) (Wt (.inr (fun e=>HNe.out e.symm)));rw[AI,Af];simpa using h
    case measure=>simp[intOf];omega
  ·have di:=Wv (show n<=i by omega)
   have hDl:D.length<=n:=by omega
   have hAj:i=n:=by omega
   have HDl:Hid (D=l.filter fun s=>decide (s.parent=p)):=by
    have h:=HD.out;rw[hAj,<-HN.out,List.take_length]at h;exact h
   have hDs:D.length<=1000000:=by omega
   clear hAj;have yQ:=AA (zC.out wr pb v D xF.out hbw HBp.out hDs);clear xF HBq y1 zC;go_wp2_with fail
   refine yQ.out.mono ?_;rintro en w3 ⟨rfl,hB3,hb3,l3,A3,c3,rfl,hp3,ha3,hr3⟩;obtain⟨n3,hn3⟩:=Ws l3.length;rw[hn3]at hB3 ⊢;have HB3:=AA hB3;have HR3:=AA hr3;have HP3:=AA hp3;have HA3:=AA ha3;clear ha3;have HL3:=AA hn3;have hn3n:n3<=n:=by rw[<-hn3,hp3.length_eq];exact hDl
   have z1:w3.cell? ⟨pb,0,none⟩=some (.slice A3 n3 c3):=hB3.cell 0;have hEQ:pb<w3.heap.size:=hB3.lt;clear hB3 hr3 hp3 hn3 yQ y2 HBp;go_wp2
   go_loopw [8,32] (fun v iv wr=>RM l3 w3 v iv wr) (fun _ iv _=>n3-(intOf iv).toNat)
   case atStart=>exact⟨0,[],rfl,Nat.zero_le _,AB _,rfl,⟨by simp,.inl ⟨rfl,rfl⟩⟩,AC _ _⟩
   case round=>
    clear z1;obtain⟨i2,O,rfl,hBJ,hOi,hO,hAT,hbr⟩:=hrel;rw[HL3.out]at hBJ;have HO:=AA hO;have HOv:=AA hAT;have hOs:O.length<=1000000:=by omega
    clear hO hAT;by_cases hi2:i2<n3
    ·have di2:=Wu (show i2<n3 by omega)
     obtain⟨x,hx⟩:∃x,l3[i2]? =some x:=⟨_,AE (by rw[HL3.out];exact hi2)⟩;obtain⟨b3,o3,rfl,zP,xH⟩:=HR3.out.cells (by intro e;have:=AY vtc 22 l3 (CI l3);rw[e,HL3.out]at this;simp at this;omega);clear xH;have x1:AK wr b3 (o3+i2*22) 22=some x.cells:=(HR3.out.below hbr).voteRow hx;have HTh:Hid (Da id l3 (i2+1)=Da id l3 i2++if(i2=0∨(l3[i2-1]?.map id)≠some x)then[x]else[]):=by
      unfold Hid;rw[Da,hx];rfl
     obtain⟨r,hrr⟩:=Wr ((decide (i2=0)||decide ((l3[i2-1]?.map id)≠some x)));have HRr:=AA hrr;clear hrr;have HXx:=AA hx;clear hx;go_upto_region 13 with(refine AJ rfl 46 (.tmp 10) (.tmp 36) rfl wr.heap.size x.cells rfl rfl 46 Bk.cells (Blk.new wr _ _) (by rfl) (by kernel_rfl) (fun u hu=>BH x hu) ?_;intro w4 hB4 hg4 xb)
     have hBK:Hid (w4.ownsRow w3.heap.size 46 22 u8 O.length (O.flatMap vtc)):=Ba (HOv.out.alloc _) hg4 (fun k hk=>by
      injection hk with hk
      subst hk;right;intro e;have:=(HOv.out.lt _ e).2;omega)
     have yY:Wx w3 w4:=(hbr.alloc hbr.size _).grown hg4 (AG hbr.size (by simp)) (Wt hbr.size);have hw4:w4.heap.size=wr.heap.size+1:=by rw[xb];simp
     have HBx:=AA hB4;obtain⟨z,hz⟩:=Wr wr.heap.size;rw[<-hz]at HBx hw4 ⊢;have hz4:z<w4.heap.size:=by omega
     clear hB4 hg4 xb x1 hz HOv hbr;go_frame;go_cut[47] (fun bv wx=>bv= .bool r/\∃k,wx=w4.drewN k)
     case first=>
      by_cases h0:i2=0
      ·subst h0;refine rgD (fun _=>True) (trivial) fun _=>?_
       iterate 3 (refine tkA ?_;go_frame)
       refine skD 40 3 ?_;go_frame;refine skD 41 4 ?_;go_frame;refine skD 42 5 ?_;go_frame;refine skD 43 6 ?_;go_frame;refine skD 44 7 ?_;go_frame;refine skD 45 8 ?_;go_frame;refine skD 46 9 ?_;go_frame;refine tkD 47 10 ?_;go_frame;refine dnD ?_;go_wp2_with fail
       go_meet;exact⟨by rw[HRr.out];rfl,1,rfl⟩
      ·have d0:decide ((i2:Int)=0)=false:=by simp;omega
       have d0b:((i2:Int)==0)=false:=by simp;omega
       obtain⟨y,hy⟩:∃y,l3[i2-1]? =some y:=⟨_,AE (by rw[HL3.out];omega)⟩;obtain⟨j,hj⟩:=Wr (i2-1);rw[<-hj]at hy;have hji:(i2:Int)-1=(j:Int):=by omega
       have hjn:j<n3:=by omega
       have hwj:IntKind.i64.wrap (j:Int)=(j:Int):=EV _ (by omega);have HJ:=AA hj;clear hj;obtain⟨k,hk⟩:=Wr (decide (x=y));have e1:∀W,(Op.equalIn 10000 46 (.agg x.cells) (.agg y.cells)).run prog W= .ok k W:=fun W=>by rw[hk];exact UZ x y W
       have HYy:=AA hy;have HKk:=AA hk;clear hk hy;have xe:Hid (∀V,Wx w4 V->AK V z 0 22=some x.cells/\V.cell? ⟨pb,0,none⟩=some (.slice (some ⟨b3,o3,none⟩) n3 c3)/\AK V b3 (o3+j*22) 22=some y.cells):=fun V hV=>
        ⟨(HBx.out.below hV hz4).row 22 rfl,((yY.trans (hV.mono yY.size)).cell (p:=⟨pb,0,none⟩) hEQ).trans (HB3.out.cell 0),(HR3.out.below (yY.trans (hV.mono yY.size))).voteRow HYy.out⟩
       have hbx:Wx w4 w4:=AC _ _;refine rgD (fun w'=>AK w' z 0 22=some x.cells/\w'.cell? ⟨pb,0,none⟩=some (.slice (some ⟨b3,o3,none⟩) n3 c3)/\AK w' b3 (o3+j*22) 22=some y.cells) (xe.out _ hbx.drew) fun _=>?_
       iterate 11 (refine tkA ?_;go_frame)
       refine dnD ?_;go_wp2_with fail
       go_meet;refine⟨?_,1,rfl⟩;rw[HRr.out,<-HJ.out,HYy.out,HKk.out];simp[h0,eq_comm]
     case rest=>
      obtain⟨rfl,k,rfl⟩:=hcut;have hrq:AK (w4.drewN k) z 0 22=some x.cells:=by rw[AU];exact HBx.out.row 22 rfl
      have hAU:Hid ((w4.drewN k).ownsRow w3.heap.size 46 22 u8 O.length (O.flatMap vtc)):=hBK.out;have zX:Wx w3 (w4.drewN k):=BJ yY k;cases r with
      |true=>
       have hC:i2=0∨(l3[i2-1]?.map id)≠some x:=by
        have h:=HRr.out.symm;rw[Bool.or_eq_true,decide_eq_true_eq,decide_eq_true_eq]at h;exact h
       have HC:=AA hC;clear hC;clear hBK yY;generalize w4.drewN k=w5 at*;go_wp2_with ((first
        |(refine BQ rfl 56 46 (.tmp 49) rfl x.cells rfl underlying56 (by kernel_rfl) (by decide) (by decide) ?_)
        |(at_builtin;refine Ar rfl (.tmp 48) (.tmp 50) _ rfl w3.heap.size 46 (.agg Bk.cells) 22 64 underlying56 CE rfl (by decide) u8 O.length (O.flatMap vtc) rfl ?r0 (w5.heap.size+1) (some ⟨w5.heap.size,0,none⟩) 1 1 (vtc x) rfl ?r1 ?r2 ?r3 ?r4 ?r5 ?r6 ?_)))
       case r0=>exact hAU.out.alloc _
       case r1=>rfl
       case r2=>exact Rd.mk (by omega) (fun j u hu=>by rw[Nat.zero_add,(Blk.new w5 _ _).cell];simpa using hu)
       case r3=>exact fun u hu=>BH x hu
       case r4=>omega
       case r5=>unfold maxLen;omega
       case r6=>have:=zX.size;simp;omega
       intro v7 w7 xE hg7 xo;have hER:Wx w3 w7:=BO (zX.alloc zX.size _) (hAU.out.alloc _) hg7;have hES:=AA xE;clear xE hg7 xo hrq hAU zX;go_wp2;go_roundw
       case rel=>
        refine⟨i2+1,O++[x],by go_num,by rw[HL3.out];omega,by rw[AI];simp;omega,?_,?_,hER⟩
        ·rw[HTh.out,if_pos HC.out,<-HO.out]
        ·have h:=hES.out;rw[AI,Af];simpa using h
       case measure=>simp[intOf];omega
      |false=>
       have hC:¬(i2=0∨(l3[i2-1]?.map id)≠some x):=by
        have h:=HRr.out.symm;rw[Bool.or_eq_false_iff,decide_eq_false_iff_not,decide_eq_false_iff_not]at h;intro hh;rcases hh with hh|hh
        ·exact h.1 hh
        ·exact h.2 hh
       have HC:=AA hC;clear hC;clear hBK yY hrq;generalize w4.drewN k=w5 at*;go_wp2;go_roundw
       case rel=>exact⟨i2+1,O,by go_num,by rw[HL3.out];omega,by omega,(by rw[HTh.out,if_neg HC.out,List.append_nil];exact HO.out),hAU.out,zX⟩
       case measure=>simp[intOf];omega
    ·have di2:=Wv (show n3<=i2 by omega)
     go_wp2;go_ret;have hi3:i2=l3.length:=by rw[HL3.out];omega
     have hOm:∀s∈O,s∈l/\s.parent=p:=fun s hs=>by
      rw[HO.out]at hs;have h:=HP3.out.mem_iff.1 (Of hs);rw[HDl.out]at h;obtain⟨h1,h2⟩:=List.mem_filter.1 h;exact⟨h1,of_decide_eq_true h2⟩
     exact⟨u8,O,rfl,hOm,by omega,fun h12=>by rw[HO.out,hi3];exact RL (by rw[<-HDl.out];exact HP3.out) (HA3.out (by rw[HDl.out];exact h12)),BS HOv.out hb3.size,hb3.trans (hbr.mono hb3.size)⟩
theorem RU(M:Int)(nC:Nat)(A:Option Addr)(c:Nat)(v:Vt)(w:World)(hv:AW v)(hk:¬v.kind<=4):Calls prog 167 #[.int .i64 M,v.val,.slice A nC c] w fun e w'=>e= .returned (.bool false)/\Wx w w':=by
 obtain⟨W1,hW1⟩:=Wr (w.alloc (Obj.cells v.cells 46));have yK:Wx w W1:=by rw[hW1];exact(AC _ _).alloc (AB _) _
 have hBv:Blk W1 w.heap.size 46 v.cells:=by rw[hW1];exact Blk.new _ _ _
 have hs1:W1.heap.size=w.heap.size+1:=by rw[hW1];simp
 have yp:Hid (∀W,Calls prog 49 #[v.val] W (An W true)):=fun W=>by
  have h:=De v W ⟨by have:=hv.2.2.2.1;omega,by have:=hv.2.2.2.1;omega⟩;rwa[decide_eq_true hv]at h
 have HF1:Hid (∀W,Wx W1 W->AK W w.heap.size 0 22=some v.cells/\W.cell? ⟨w.heap.size,0,none⟩=some (I v.kind)):=fun W hW=>⟨(hBv.below hW (by omega)).row 22 rfl,(hBv.below hW (by omega)).cell 0⟩
 have dk:decide (v.kind>4)=true:=by simp;omega
 have HW:=AA hW1;have HB1:=AA yK;clear hW1 yK hBv hv hk hs1;go_enter func167,ntmps167;go_upto_region 1 with fail
 simp only[<-HW.out];have xA:Wx W1 W1:=AC _ _;obtain⟨x0,y0⟩:=HF1.out _ xA;go_wp2_with (go_at_call 49;refine(yp.out _).mono ?_;rintro en wa ⟨rfl,hba⟩;replace xA:=xA.trans (hba.mono xA.size);obtain⟨x0,y0⟩:=HF1.out _ xA;clear yp)
 go_ret;exact⟨rfl,HB1.out.trans (xA.mono HB1.out.size)⟩
def JZ(M:Int)(q:Nat)(v:Vt)(C:List Vt)(b:Bool):Prop:=(b=true->v.kind<=4)/\(v.kind<=4->C4 M q v C b)
theorem Ja(M:Int)(nC:Nat)(A:Option Addr)(c:Nat)(C:List Vt)(v:Vt)(w:World)(hn:C.length=nC)(hr:Rd w w.heap.size A (C.flatMap vtc))(hC:∀s∈C,RF M v s)(hsm:nC<=1000000)(hv:AW v)(hsl:(xOf M).testBit v.slot.toNat=true):Calls prog 167 #[.int .i64 M,v.val,.slice A nC c] w fun e w'=>∃b,e= .returned (.bool b)/\Wx w w'/\JZ M (Bd (Ae (xOf M) 10)) v C b:=by
 by_cases hk:v.kind<=4
 ·exact(ML M nC A c C v w hn hr hC hsm hv hk hsl).mono fun e w' ⟨b,h1,h2,h3⟩=>⟨b,h1,h2,fun _=>hk,fun _=>h3⟩
 ·exact(RU M nC A c v w hv hk).mono fun e w' ⟨h1,h2⟩=>⟨false,h1,h2,fun h=>(by cases h),fun h=>absurd h hk⟩
end
end Go.Proofs.YtadllffeoibelaaGreat
