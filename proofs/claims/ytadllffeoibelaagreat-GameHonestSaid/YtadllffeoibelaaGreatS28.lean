/-
  What these parts of the proof come to, functions walked and plain laws: Out4, Asc4, Jus7. No condition.
-/
import Derived.Test.YtadllffeoibelaaGreatS27
import Derived.Deep.DeepCutAuto
import Derived.Test.YtadllffeoibelaaGreatS6
import Derived.Test.YtadllffeoibelaaGreatS12
import Derived.Test.YtadllffeoibelaaGreatS26
namespace Go.Proofs.YtadllffeoibelaaGreat
set_option maxRecDepth 100000
set_option maxHeartbeats 32000000
set_option linter.all false
section
open Go.RowKit Go.Shelf
attribute [local go_sem ↓] Go.wp_at_zero Go.wp_at_succ An Au Av Aw Gq
attribute [local go_sem] BD BH BI BJ Jn AN AW AQ
def slF(s:Nat)(l:List Vt):List Vt:=l.filter fun x=>decide (x.slot=(s:Int))&&decide (x.kind≤4)
theorem Ra{s:Nat}{l:List Vt}{x:Vt}(h:x∈slF s l):x∈l∧x.slot=(s:Int)∧x.kind≤4:=by
 unfold slF at h;obtain⟨h1,h2⟩:=List.mem_filter.1 h;rw[Bool.and_eq_true,decide_eq_true_eq,decide_eq_true_eq]at h2;exact⟨h1,h2⟩
theorem I1{s:Nat}{l:List Vt}{i:Nat}{x:Vt}(hx:l[i]? =some x):slF s (l.take (i+1))=slF s (l.take i)++if(decide (x.slot=(s:Int))&&decide (x.kind≤4))=true then[x]else[]:=by
 unfold slF;rw[Ag,hx,List.filter_append];by_cases h:(decide (x.slot=(s:Int))&&decide (x.kind≤4))=true <;> simp[h]
theorem Rb{s:Nat}{l:List Vt}{i:Nat}{x:Vt}(hx:l[i]? =some x)(h1:x.slot=(s:Int))(h2:x.kind≤4):slF s (l.take (i+1))=slF s (l.take i)++[x]:=by
 rw[I1 hx,if_pos (by simp[h1,h2])]
theorem QD{s:Nat}{l:List Vt}{i:Nat}{x:Vt}(hx:l[i]? =some x)(h2:¬x.kind≤4):slF s (l.take (i+1))=slF s (l.take i):=by
 rw[I1 hx,if_neg (by simp;omega),List.append_nil]
theorem QE{s:Nat}{l:List Vt}{i:Nat}{x:Vt}(hx:l[i]? =some x)(h2:¬x.slot=(s:Int)):slF s (l.take (i+1))=slF s (l.take i):=by
 rw[I1 hx,if_neg (by simp[h2]),List.append_nil]
theorem Ms(p:Nm)(s:Nat)(l D:List Vt)(h:D=slF s l):(D.filter fun s=>decide (s.parent=p)).length≤(l.filter fun s=>decide (s.parent=p)).length:=by
 rw[h];unfold slF;exact(List.Sublist.filter _ List.filter_sublist).length_le
def kyO(s:Nat)(x:Vt):Oc:=⟨(s:Int),x.round,x.choice,x.value⟩
def DW(s:Nat)(O:List Vt)(kl:List (Oc×Value)):Prop:=∀x∈O,x.kind=4→x.choice≠2→∃S:Nat,BR (kyO s x) kl=some (.int .i64 (S:Int))∧S.testBit x.signer.toNat=true
def SW(M:Int)(s:Nat)(O:List Vt)(x:Vt):Prop:=∃S:Nat,(∀y∈O,y.kind=4→y.choice≠2→kyO s y=kyO s x→S.testBit y.signer.toNat=true)∧At (xOf (S:Int)) 10<B9 (At (xOf M) 10)
def GY(M:Int)(L:List Oc)(p:Oc×Value):Prop:=p.1∈L∨∀S:Nat,p.2= .int .i64 (S:Int)→At (xOf (S:Int)) 10<B9 (At (xOf M) 10)
theorem GY.snoc{M:Int}{L:List Oc}{k:Oc}{v:Value}{p:Oc×Value}(h:GY M L p∨p=(k,v)):GY M (L++[k]) p:=by
 rcases h with(h|h)|rfl
 ·exact .inl (BS _ h)
 ·exact .inr h
 ·exact .inl (by simp)
theorem GY.fail{M:Int}{L:List Oc}{k:Oc}{S:Nat}{p:Oc×Value}(hq:At (xOf (S:Int)) 10<B9 (At (xOf M) 10))(h:GY M L p∨p=(k,.int .i64 (S:Int))):GY M L p:=by
 rcases h with h|rfl
 ·exact h
 ·refine .inr fun S' hS'=>?_
  have e:S=S':=by
   simp only[Value.int.injEq,true_and]at hS';omega
  rw[←e];exact hq
theorem DW.skip{s:Nat}{O:List Vt}{i:Nat}{x:Vt}{kl:List (Oc×Value)}(h:DW s (O.take i) kl)(hx:O[i]? =some x)(hn:¬x.kind=4∨x.choice=2):DW s (O.take (i+1)) kl:=by
 intro y hy h4 h2;rw[Ag,hx]at hy;rcases AP.1 hy with hy|hy
 ·exact h y hy h4 h2
 ·have:y=x:=by simpa using hy
  subst this;rcases hn with hn|hn
  ·exact absurd h4 hn
  ·exact absurd hn h2
theorem DW.step{s:Nat}{O:List Vt}{i:Nat}{x:Vt}{kl kl5 kl6:List (Oc×Value)}{S sn:Nat}{k:Oc}(hkk:k=kyO s x)(h:DW s (O.take i) kl)(hx:O[i]? =some x)(hsn:x.signer=(sn:Int))(h6:kl6=CJ k (.int .i64 ((S|||2^sn:Nat):Int)) kl5)(h5:∀k',BR k' kl5=if k'=k then some ((BR k kl).getD (.int .i64 0))else BR k' kl)(hS:(BR k kl).getD (.int .i64 0)= .int .i64 (S:Int)):DW s (O.take (i+1)) kl6:=by
 subst hkk;intro y hy h4 h2;rw[Ag,hx]at hy;rw[h6,Cy];by_cases hk:kyO s y=kyO s x
 ·rw[if_pos hk];refine⟨_,rfl,?_⟩;rw[Nat.testBit_or,Bool.or_eq_true,Nat.testBit_two_pow];rcases AP.1 hy with hy|hy
  ·obtain⟨S',h7,h8⟩:=h y hy h4 h2;rw[hk]at h7;rw[h7,Option.getD_some]at hS;simp only[Value.int.injEq,true_and]at hS;have:S'=S:=by omega
   rw[←this];exact .inl h8
  ·have:y=x:=by simpa using hy
   subst this;right;rw[hsn];simp
 ·rw[if_neg hk,h5,if_neg hk];rcases AP.1 hy with hy|hy
  ·exact h y hy h4 h2
  ·have:y=x:=by simpa using hy
   subst this;exact absurd rfl hk
theorem DW.fin{M:Int}{s:Nat}{O:List Vt}{kl:List (Oc×Value)}{L:List Oc}(h:DW s O kl)(hv:∀p∈kl,GY M L p):∀x∈O,x.kind=4→x.choice≠2→kyO s x∈L∨SW M s O x:=by
 intro x hx h4 h2;obtain⟨S,h5,h6⟩:=h x hx h4 h2;rcases hv _ (EZ _ _ _ h5)with h7|h7
 ·exact .inl h7
 ·refine .inr ⟨S,fun y hy hy4 hy2 hk=>?_,h7 S rfl⟩;obtain⟨S',h8,h9⟩:=h y hy hy4 hy2;rw[hk,h5]at h8;simp only[Option.some.injEq,Value.int.injEq,true_and]at h8;have:S=S':=by omega
  rw[this];exact h9
theorem Na{op:Oper}{a:Act}{K:Act→World→Prop}{Q:Exit→Act→World→Prop}(x y:Operand)(ho:op.op= .mapEntry 178 x y)(m:Nat)(k:Oc)(hx:a.eval x= .map (some m))(hy:a.eval y=k.val){w:World}{kl:List (Oc×Value)}(h:Bh Oc.val w m kl)(hK:∀(w':World) (b:Nat) (v:Value) (kl':List (Oc×Value)),Il Oc.val w' m kl' k b→(∀k',BR k' kl'=if k'=k then some ((BR k kl).getD (.int .i64 0))else BR k' kl)→Upd k (.int .i64 0) kl kl'→kl'.length≤kl.length+1→w.grownBy w' (some m)→w'.heap.size=w.heap.size→K (a.put op.dst (.tuple #[v,goInt (b:Int)])) w'):op.wp Tryz.prog a w K Q:=by
 obtain⟨w',b,v,kl',hr,h1,h2,h3,h4,h5,h6⟩:=h.entryX SS Tryz.underlying178 (.int .i64 0) Fb k;refine B5 (w':=w') (.tuple #[v,goInt (b:Int)]) ?_ (hK w' b v kl' h1 h2 h3 h4 h5 h6);unfold execOp;rw[ho];simp only[hx,hy];simp[hr,Result.andThen]
theorem Nb{op:Oper}{a:Act}{K:Act→World→Prop}{Q:Exit→Act→World→Prop}(x y z:Operand)(ho:op.op= .entryStore 178 x y z)(m b:Nat)(k:Oc)(v:Value)(hx:a.eval x= .map (some m))(hy:a.eval y=goInt (b:Int))(hz:a.eval z=v){w:World}{kl:List (Oc×Value)}(h:Il Oc.val w m kl k b)(hK:∀(w':World) (kl':List (Oc×Value)),kl'=CJ k v kl→Bh Oc.val w' m kl'→Upd k v kl kl'→kl'.length=kl.length→w.grownBy w' (some m)→w'.heap.size=w.heap.size→K (a.put op.dst undef) w'):op.wp Tryz.prog a w K Q:=by
 obtain⟨w',hr,h1,h2,h3,h4,h5⟩:=h.store (P:=Tryz.prog) 178 v;refine KW (w':=w') ?_ (hK w' _ rfl h1 h2 h3 h4 h5);unfold execOp;rw[ho];simp only[hx,hy,hz];simp[hr,Result.andThen]
def Ts(l:List Vt)(s:Nat)(w:World)(v iv:Value)(wr:World):Prop:=
 ∃(i:Nat) (D:List Vt),iv= .int .i64 (i:Int)∧i≤l.length∧D.length≤i∧D=slF s (l.take i)∧wr.ownsRow w.heap.size 46 22 v D.length (D.flatMap vtc)∧Below w.heap.size w wr
def Tt(M:Int)(s:Nat)(O:List Vt)(m:Nat)(w:World)(iv:Value)(wr:World):Prop:=
 ∃(i:Nat) (kl:List (Oc×Value)),iv= .int .i64 (i:Int)∧i≤O.length∧kl.length≤i∧Cg M (s:Int) O kl∧DW s (O.take i) kl∧Bh Oc.val wr m kl∧w.grownBy wr (some m)
def Tu(M:Int)(s:Nat)(O:List Vt)(m r pb:Nat)(kl:List (Oc×Value))(w:World)(wr:World):Prop:=
 ∃(cnt:Nat) (v:Value) (L:List Oc),Co Oc.val wr m r kl cnt (GY M L)∧Blk wr pb 103 #[v]∧L.length+cnt≤kl.length∧(∀o∈L,o.slot=(s:Int)∧KN (xOf M) O o.round o.choice o.value)∧wr.ownsRow w.heap.size 142 11 v L.length (L.flatMap occ)∧Below w.heap.size w wr
end
section
open Go.RowKit Go.Shelf
attribute [local go_sem ↓] Go.wp_at_zero Go.wp_at_succ An Au Av Aw
attribute [local go_sem] BD BH BI BJ AN AW AQ
theorem Nc{α:Type}{f:α→Vt}{l:List α}:∀{i:Nat} {s:α},s∈DF f l i→s∈l
 |0,_,h=>by cases h
 |i+1,s,h=>by
  rw[DF]at h;rcases AP.1 h with h|h
  ·exact Nc h
  ·rcases hx:l[i]? with _|x
   ·rw[hx]at h;cases h
   ·rw[hx]at h;dsimp only at h;split at h
    ·rw[AR.1 h];exact AM hx
    ·cases h
def Rc(D:List Vt)(w:World)(pb:Nat)(v:Value)(e:Ending)(w3:World):Prop:=
 e= .returned (.tuple #[])∧Blk w3 pb 56 #[v]∧Below w.heap.size w w3∧∃(l3:List Vt) (A:Option Addr) (c:Nat),v= .slice A l3.length c∧l3.Perm D∧(D.length≤12→Asc Bg l3)∧Rd w3 w3.heap.size A (l3.flatMap vtc)
theorem QF(w W:World)(pb:Nat)(v:Value)(D:List Vt)(hown:W.ownsRow w.heap.size 46 22 v D.length (D.flatMap vtc))(hb:Below w.heap.size w W)(hpb:Blk W pb 56 #[v])(hsm:D.length≤1000000):Calls Tryz.prog 116 #[.iface 56 v,.func (.func 221) #[] #[.pointer (some ⟨pb,0,none⟩)]] W (Rc D w pb v):=by
 rcases FD hown with⟨rfl,h0,_⟩|⟨g,cap,T,rfl,hg,hblk,hcap⟩
 ·refine(Gx Ix 0 W).mono ?_;rintro e w3 ⟨rfl,hb3⟩;have hD:D=[]:=AV h0;subst hD;exact⟨rfl,hpb.below hb3 hpb.lt,hb.trans (hb3.mono hb.size),[],none,0,rfl,List.Perm.refl _,fun _=>Asc.nil,Rd.nil⟩
 ·have hne:pb≠g:=by
   intro e;subst e;unfold Blk at hpb hblk;rw[hpb]at hblk;injection hblk with hh
   injection hh with _ ht
   exact absurd ht (by decide)
  have hl:=NL T pb g D.length cap D W hpb hne rfl;have key:Calls Tryz.prog 116 #[.iface 56 (.slice (some ⟨g,0,none⟩) D.length cap),.func (.func 221) #[] #[.pointer (some ⟨pb,0,none⟩)]] W fun e w3=>e= .returned (.tuple #[])∧∃l',Bx ⟨vtc,T⟩ 46 W g l' w3∧l'.Perm D∧(D.length≤12→Asc Bg l'):=by
   by_cases h12:D.length≤12
   ·exact(Mr Ix ⟨vtc,T⟩ (fun _=>rfl) (fun x v hv=>BM x hv) UR (fun args W=>Iy args W) D g D.length cap W hl hblk rfl h12).mono fun e w3 ⟨a,l',b,c,d⟩=>⟨a,l',b,c,fun _=>d⟩
   ·exact(Gw Ix ⟨vtc,T⟩ (fun _=>rfl) (by decide) (fun x v hv=>BM x hv) (fun args W=>Iy args W) D g D.length cap W hl hblk rfl hsm).mono fun e w3 ⟨a,l',b,c⟩=>⟨a,l',b,c,fun h=>absurd h h12⟩
  refine key.mono ?_;rintro e w3 ⟨rfl,l3,hr3,hp3,ha3⟩;refine⟨rfl,hr3.box hpb hne,hb.grown hr3.kept hb.size (fun k hk=>by injection hk with hk;subst hk;exact hg),l3,_,cap,by rw[hp3.length_eq],hp3,ha3,?_⟩;refine Rd.mk hr3.blk.lt fun j u hu=>?_
  rw[hr3.blk.cell,Nat.zero_add,List.getElem?_toArray];show(l3.flatMap vtc++T)[j]? =some u;rw[List.getElem?_append_left (AG.1 hu).1,hu]
theorem QG(p:Nm)(A:Option Addr)(n c:Nat)(l:List Vt)(w:World)(hn:l.length=n)(hr:Rd w w.heap.size A (l.flatMap vtc))(hsm:n≤1000000):Calls Tryz.prog 166 #[p.val,.slice A n c] w fun e w'=>∃(v:Value) (O:List Vt),e= .returned v∧(∀s∈O,s∈l∧s.parent=p)∧O.length≤n∧((l.filter fun s=>decide (s.parent=p)).length≤12→O=Lc p l)∧w'.ownsRow w.heap.size 46 22 v O.length (O.flatMap vtc)∧Below w.heap.size w w':=by
 have HN:=AA hn;have HR:=AA hr;have HMid:=AA (fun W pb v D h1 h2 h3 h4=>QF w W pb v D h1 h2 h3 h4);clear hn hr;go_enter Tryz.func166,Tryz.ntmps166;go_upto_region 2 with fail
 obtain⟨w1,hw1⟩:∃w1,w1=(w.alloc (.cells p.cells 24)).alloc (.cells #[.slice none 0 0] 56):=⟨_,rfl⟩;rw[←hw1];have hbw1:Below w.heap.size w w1:=by rw[hw1];exact((AC _ _).alloc (AB _) _).alloc (by simp) _
 have HB1:Hid (Blk w1 w.heap.size 24 p.cells):=by
  unfold Hid;rw[hw1];exact(Blk.new w _ _).alloc _
 have HB2:Hid (Blk w1 (w.heap.size+1) 56 #[.slice none 0 0]):=by
  unfold Hid;rw[hw1];have:=Blk.new (w.alloc (.cells p.cells 24)) 56 #[.slice none 0 0];simpa using this
 clear hw1;obtain⟨q,hq⟩:∃q,q=w.heap.size:=⟨_,rfl⟩;obtain⟨pb,hpb⟩:∃pb,pb=w.heap.size+1:=⟨_,rfl⟩;rw[←hpb,←hq];rw[←hpb]at HB2;rw[←hq]at HB1;have hqp:q≠pb:=by omega
 have hqw:w.heap.size≤q:=by omega
 have hpw:w.heap.size≤pb:=by omega
 clear hq hpb;go_wp2
 go_loopw [13] (fun iv wr=>RZ l p w q pb iv wr) (fun iv _=>n-(intOf iv).toNat)
 case atStart=>exact⟨0,_,[],rfl,Nat.zero_le _,Nat.zero_le _,by simp,⟨by simp,.inl ⟨rfl,rfl⟩⟩,hbw1,HB1.out,HB2.out⟩
 case round=>
  clear hbw1 HB1 HB2;obtain⟨i,v,D,rfl,hin,hDi,hD,hown,hbw,hBq,hBp⟩:=hrel;rw[HN.out]at hin;have HD:=AA hD;have HOwn:=AA hown;have HBq:=AA hBq;have HBp:=AA hBp;have y1:AK wr q 0 8=some p.cells:=hBq.row 8 rfl;have y2:wr.cell? ⟨pb,0,none⟩=some v:=hBp.cell 0;have hqr:q<wr.heap.size:=hBq.lt;have hpr:pb<wr.heap.size:=hBp.lt;clear hD hown hBq hBp;by_cases hi:i<n
  ·have di:decide ((i:Int)<(n:Int))=true:=by simp;omega
   obtain⟨x,hx⟩:∃x,l[i]? =some x:=⟨_,AE (by rw[HN.out];exact hi)⟩;obtain⟨b,o,rfl,hb,hcell⟩:=HR.out.cells (by intro e;have:=AX vtc 22 l (B6 l);rw[e,HN.out]at this;simp at this;omega);clear hcell;have x1:AK wr b (o+i*22) 22=some x.cells:=(HR.out.below hbw).voteRow hx;have HStep:Hid ((l.take (i+1)).filter (fun s=>decide (s.parent=p))=(l.take i).filter (fun s=>decide (s.parent=p))++(if x.parent=p then[x]else[])):=by
    unfold Hid;rw[Ag,hx,List.filter_append];by_cases h:x.parent=p <;> simp[h]
   clear hx;go_upto_region 5 with(refine AJ rfl 46 (.tmp 7) (.tmp 16) rfl wr.heap.size x.cells rfl rfl 46 Bk.cells (Blk.new wr _ _) (by rfl) (by kernel_rfl) (fun u hu=>BM x hu) ?_;intro w4 hB4 hg4 hsz4)
   have HOwn4:Hid (w4.ownsRow w.heap.size 46 22 v D.length (D.flatMap vtc)):=BZ (HOwn.out.alloc _) hg4 (fun k hk=>by
    injection hk with hk
    subst hk;right;intro e;have:=(HOwn.out.lt _ e).2;omega)
   have hbw4:Below w.heap.size w w4:=(hbw.alloc hbw.size _).grown hg4 (AF hbw.size (by simp)) (fun k hk=>by injection hk with hk;subst hk;exact hbw.size);have HBq4:Hid (Blk w4 q 24 p.cells):=(HBq.out.alloc _).kept hg4 (by intro e;injection e with e;omega);have HBp4:Hid (Blk w4 pb 56 #[v]):=(HBp.out.alloc _).kept hg4 (by intro e;injection e with e;omega);have hw4:w4.heap.size=wr.heap.size+1:=by rw[hsz4];simp
   obtain⟨z,hz⟩:∃z,z=wr.heap.size:=⟨_,rfl⟩;rw[←hz]at hB4 hw4 ⊢;have x2:AK w4 z 6 8=some x.parent.cells:=x.row_parent hB4;have x3:AK w4 z 0 22=some x.cells:=hB4.row 22 rfl;have y3:AK w4 q 0 8=some p.cells:=HBq4.out.row 8 rfl;have y4:w4.cell? ⟨pb,0,none⟩=some v:=HBp4.out.cell 0;have y5:w4.frozen? ⟨pb,0,none⟩=false:=HBp4.out.frozen 0;clear hB4 hg4 hsz4 x1 y1 y2 hz HOwn HBq HBp hbw hw4;obtain⟨k,hk⟩:∃k,k=decide (x.parent=p):=⟨_,rfl⟩;have e1:∀W,(Op.equalIn 10000 24 (.agg x.parent.cells) (.agg p.cells)).run Tryz.prog W= .ok k W:=fun W=>by rw[hk];exact Dz x.parent p W 9998
   have HK:=AA hk;clear hk;try go_frame
   cases k with
   |false=>
    go_wp2;go_roundw
    case rel=>exact⟨i+1,v,D,by go_num,by rw[HN.out];omega,by omega,(by rw[HStep.out,if_neg (of_decide_eq_false HK.out.symm),List.append_nil];exact HD.out),HOwn4.out,hbw4,HBq4.out,HBp4.out⟩
    case measure=>simp[intOf];omega
   |true=>
    have hxp:x.parent=p:=of_decide_eq_true HK.out.symm;have HXp:=AA hxp;clear hxp HK;go_wp2_with ((first
     |(refine BP rfl 56 46 (.tmp 22) rfl x.cells rfl Tryz.underlying56 (by kernel_rfl) (by decide) (by decide) ?_)
     |(at_builtin;refine Aq rfl (.tmp 21) (.tmp 23) _ rfl w.heap.size 46 (.agg Bk.cells) 22 64 Tryz.underlying56 CA rfl (by decide) v D.length (D.flatMap vtc) rfl ?r0 (w4.heap.size+1) (some ⟨w4.heap.size,0,none⟩) 1 1 (vtc x) rfl ?r1 ?r2 ?r3 ?r4 ?r5 ?r6 ?_)))
    case r0=>exact HOwn4.out.alloc _
    case r1=>rfl
    case r2=>exact Rd.mk (by omega) (fun j u hu=>by rw[Nat.zero_add,(Blk.new w4 _ _).cell];simpa using hu)
    case r3=>exact fun u hu=>BM x hu
    case r4=>omega
    case r5=>unfold maxLen;omega
    case r6=>have:=hbw4.size;simp;omega
    intro v3 w3 hown3 hg3 hat3;have hne3:some pb≠v.ownBlock:=CC HOwn4.out HBp4.out (by decide);have hnq3:some q≠v.ownBlock:=CC HOwn4.out HBq4.out (by decide);have HBq3:Hid (Blk w3 q 24 p.cells):=(HBq4.out.alloc _).kept hg3 hnq3;have HBp3:Hid (Blk w3 pb 56 #[v]):=(HBp4.out.alloc _).kept hg3 hne3;have hne4:some pb≠v3.ownBlock:=CC hown3 HBp3.out (by decide);have hbw3:Below w.heap.size w w3:=BL (hbw4.alloc hbw4.size _) (HOwn4.out.alloc _) hg3;have y6:w3.cell? ⟨pb,0,none⟩=some v:=HBp3.out.cell 0;have y7:w3.frozen? ⟨pb,0,none⟩=false:=HBp3.out.frozen 0;obtain⟨g3,cap3,rfl⟩:=ownsRow_succ hown3;have HOwn3:=AA hown3;clear hown3 hg3 hat3 hne3 hnq3;have HNe:=AA hne4;clear hne4;go_wp2;go_roundw
    case rel=>
     refine⟨i+1,_,D++[x],by go_num,by rw[HN.out];omega,by rw[AI];simp;omega,?_,?_,hbw3.setCell hpw _,HBq3.out.far hqp _,HBp3.out.put 0 _⟩
     ·rw[HStep.out,if_pos HXp.out,←HD.out]
     ·have h:=BZ HOwn3.out (Bi (p:=⟨pb,0,none⟩) (Ai w3 pb) rfl (.slice (some ⟨g3,0,none⟩) (D.length+1) cap3)) (fun k hk=>by injection hk with hk;subst hk;exact .inr (fun e=>HNe.out e.symm));rw[AI,Ad];simpa using h
    case measure=>simp[intOf];omega
  ·have di:decide ((i:Int)<(n:Int))=false:=by simp;omega
   have hDl:D.length≤n:=by omega
   have hin':i=n:=by omega
   have HDl:Hid (D=l.filter fun s=>decide (s.parent=p)):=by
    have h:=HD.out;rw[hin',←HN.out,List.take_length]at h;exact h
   have hDs:D.length≤1000000:=by omega
   clear hin';have HSort:=AA (HMid.out wr pb v D HOwn.out hbw HBp.out hDs);clear HOwn HBq y1 HMid;go_wp2_with fail
   refine HSort.out.mono ?_;rintro en w3 ⟨rfl,hB3,hb3,l3,A3,c3,rfl,hp3,ha3,hr3⟩;obtain⟨n3,hn3⟩:∃n3,l3.length=n3:=⟨_,rfl⟩;rw[hn3]at hB3 ⊢;have HB3:=AA hB3;have HR3:=AA hr3;have HP3:=AA hp3;have HA3:=AA ha3;clear ha3;have HL3:=AA hn3;have hn3n:n3≤n:=by rw[←hn3,hp3.length_eq];exact hDl
   have z1:w3.cell? ⟨pb,0,none⟩=some (.slice A3 n3 c3):=hB3.cell 0;have hp3':pb<w3.heap.size:=hB3.lt;clear hB3 hr3 hp3 hn3 HSort y2 HBp;go_wp2
   go_loopw [8,32] (fun v iv wr=>QC l3 w3 v iv wr) (fun _ iv _=>n3-(intOf iv).toNat)
   case atStart=>exact⟨0,[],rfl,Nat.zero_le _,AB _,rfl,⟨by simp,.inl ⟨rfl,rfl⟩⟩,AC _ _⟩
   case round=>
    clear z1;obtain⟨i2,O,rfl,hin2,hOi,hO,hownv,hbr⟩:=hrel;rw[HL3.out]at hin2;have HO:=AA hO;have HOv:=AA hownv;have hOs:O.length≤1000000:=by omega
    clear hO hownv;by_cases hi2:i2<n3
    ·have di2:decide ((i2:Int)<(n3:Int))=true:=by simp;omega
     obtain⟨x,hx⟩:∃x,l3[i2]? =some x:=⟨_,AE (by rw[HL3.out];exact hi2)⟩;obtain⟨b3,o3,rfl,hb3',hcell⟩:=HR3.out.cells (by intro e;have:=AX vtc 22 l3 (B6 l3);rw[e,HL3.out]at this;simp at this;omega);clear hcell;have x1:AK wr b3 (o3+i2*22) 22=some x.cells:=(HR3.out.below hbr).voteRow hx;have HTh:Hid (DF id l3 (i2+1)=DF id l3 i2++if(i2=0∨(l3[i2-1]?.map id)≠some x)then[x]else[]):=by
      unfold Hid;rw[DF,hx];rfl
     obtain⟨r,hrr⟩:∃r,r=(decide (i2=0)||decide ((l3[i2-1]?.map id)≠some x)):=⟨_,rfl⟩;have HRr:=AA hrr;clear hrr;have HXx:=AA hx;clear hx;go_upto_region 13 with(refine AJ rfl 46 (.tmp 10) (.tmp 36) rfl wr.heap.size x.cells rfl rfl 46 Bk.cells (Blk.new wr _ _) (by rfl) (by kernel_rfl) (fun u hu=>BM x hu) ?_;intro w4 hB4 hg4 hsz4)
     have HOv4:Hid (w4.ownsRow w3.heap.size 46 22 u8 O.length (O.flatMap vtc)):=BZ (HOv.out.alloc _) hg4 (fun k hk=>by
      injection hk with hk
      subst hk;right;intro e;have:=(HOv.out.lt _ e).2;omega)
     have hbr4:Below w3.heap.size w3 w4:=(hbr.alloc hbr.size _).grown hg4 (AF hbr.size (by simp)) (fun k hk=>by injection hk with hk;subst hk;exact hbr.size);have hw4:w4.heap.size=wr.heap.size+1:=by rw[hsz4];simp
     have HBx:=AA hB4;obtain⟨z,hz⟩:∃z,z=wr.heap.size:=⟨_,rfl⟩;rw[←hz]at HBx hw4 ⊢;have hz4:z<w4.heap.size:=by omega
     clear hB4 hg4 hsz4 x1 hz HOv hbr;go_frame;go_cut[47] (fun bv wx=>bv= .bool r∧∃k,wx=w4.drewN k)
     case first=>
      by_cases h0:i2=0
      ·subst h0;refine rgD (fun _=>True) (trivial) fun hHeld=>?_
       refine tkD 37 0 ?_;go_frame;refine tkD 38 1 ?_;go_frame;refine tkD 39 2 ?_;go_frame;refine skD 40 3 ?_;go_frame;refine skD 41 4 ?_;go_frame;refine skD 42 5 ?_;go_frame;refine skD 43 6 ?_;go_frame;refine skD 44 7 ?_;go_frame;refine skD 45 8 ?_;go_frame;refine skD 46 9 ?_;go_frame;refine tkD 47 10 ?_;go_frame;refine dnD ?_;go_wp2_with fail
       go_meet;exact⟨by rw[HRr.out];rfl,1,rfl⟩
      ·have d0:decide ((i2:Int)=0)=false:=by simp;omega
       have d0b:((i2:Int)==0)=false:=by simp;omega
       obtain⟨y,hy⟩:∃y,l3[i2-1]? =some y:=⟨_,AE (by rw[HL3.out];omega)⟩;obtain⟨j,hj⟩:∃j,j=i2-1:=⟨_,rfl⟩;rw[←hj]at hy;have hji:(i2:Int)-1=(j:Int):=by omega
       have hjn:j<n3:=by omega
       have hwj:IntKind.i64.wrap (j:Int)=(j:Int):=DE _ (by omega);have HJ:=AA hj;clear hj;obtain⟨k,hk⟩:∃k,k=decide (x=y):=⟨_,rfl⟩;have e1:∀W,(Op.equalIn 10000 46 (.agg x.cells) (.agg y.cells)).run Tryz.prog W= .ok k W:=fun W=>by rw[hk];exact OS x y W
       have HYy:=AA hy;have HKk:=AA hk;clear hk hy;have HRows:Hid (∀V,Below w4.heap.size w4 V→AK V z 0 22=some x.cells∧V.cell? ⟨pb,0,none⟩=some (.slice (some ⟨b3,o3,none⟩) n3 c3)∧AK V b3 (o3+j*22) 22=some y.cells):=fun V hV=>
        ⟨(HBx.out.below hV hz4).row 22 rfl,((hbr4.trans (hV.mono hbr4.size)).cell (p:=⟨pb,0,none⟩) hp3').trans (HB3.out.cell 0),(HR3.out.below (hbr4.trans (hV.mono hbr4.size))).voteRow HYy.out⟩
       have hbx:Below w4.heap.size w4 w4:=AC _ _;refine rgD (fun w'=>AK w' z 0 22=some x.cells∧w'.cell? ⟨pb,0,none⟩=some (.slice (some ⟨b3,o3,none⟩) n3 c3)∧AK w' b3 (o3+j*22) 22=some y.cells) (HRows.out _ hbx.drew) fun hHeld=>?_
       refine tkD 37 0 ?_;go_frame;refine tkD 38 1 ?_;go_frame;refine tkD 39 2 ?_;go_frame;refine tkD 40 3 ?_;go_frame;refine tkD 41 4 ?_;go_frame;refine tkD 42 5 ?_;go_frame;refine tkD 43 6 ?_;go_frame;refine tkD 44 7 ?_;go_frame;refine tkD 45 8 ?_;go_frame;refine tkD 46 9 ?_;go_frame;refine tkD 47 10 ?_;go_frame;refine dnD ?_;go_wp2_with fail
       go_meet;refine⟨?_,1,rfl⟩;rw[HRr.out,←HJ.out,HYy.out,HKk.out];simp[h0,eq_comm]
     case rest=>
      obtain⟨rfl,k,rfl⟩:=hcut;have hrq:AK (w4.drewN k) z 0 22=some x.cells:=by rw[AQ];exact HBx.out.row 22 rfl
      have HOv5:Hid ((w4.drewN k).ownsRow w3.heap.size 46 22 u8 O.length (O.flatMap vtc)):=HOv4.out;have hbr5:Below w3.heap.size w3 (w4.drewN k):=BN hbr4 k;cases r with
      |true=>
       have hC:i2=0∨(l3[i2-1]?.map id)≠some x:=by
        have h:=HRr.out.symm;rw[Bool.or_eq_true,decide_eq_true_eq,decide_eq_true_eq]at h;exact h
       have HC:=AA hC;clear hC;clear HOv4 hbr4;generalize w4.drewN k=w5 at*;go_wp2_with ((first
        |(refine BP rfl 56 46 (.tmp 49) rfl x.cells rfl Tryz.underlying56 (by kernel_rfl) (by decide) (by decide) ?_)
        |(at_builtin;refine Aq rfl (.tmp 48) (.tmp 50) _ rfl w3.heap.size 46 (.agg Bk.cells) 22 64 Tryz.underlying56 CA rfl (by decide) u8 O.length (O.flatMap vtc) rfl ?r0 (w5.heap.size+1) (some ⟨w5.heap.size,0,none⟩) 1 1 (vtc x) rfl ?r1 ?r2 ?r3 ?r4 ?r5 ?r6 ?_)))
       case r0=>exact HOv5.out.alloc _
       case r1=>rfl
       case r2=>exact Rd.mk (by omega) (fun j u hu=>by rw[Nat.zero_add,(Blk.new w5 _ _).cell];simpa using hu)
       case r3=>exact fun u hu=>BM x hu
       case r4=>omega
       case r5=>unfold maxLen;omega
       case r6=>have:=hbr5.size;simp;omega
       intro v7 w7 hown7 hg7 hat7;have hbr7:Below w3.heap.size w3 w7:=BL (hbr5.alloc hbr5.size _) (HOv5.out.alloc _) hg7;have HOv7:=AA hown7;clear hown7 hg7 hat7 hrq HOv5 hbr5;go_wp2;go_roundw
       case rel=>
        refine⟨i2+1,O++[x],by go_num,by rw[HL3.out];omega,by rw[AI];simp;omega,?_,?_,hbr7⟩
        ·rw[HTh.out,if_pos HC.out,←HO.out]
        ·have h:=HOv7.out;rw[AI,Ad];simpa using h
       case measure=>simp[intOf];omega
      |false=>
       have hC:¬(i2=0∨(l3[i2-1]?.map id)≠some x):=by
        have h:=HRr.out.symm;rw[Bool.or_eq_false_iff,decide_eq_false_iff_not,decide_eq_false_iff_not]at h;intro hh;rcases hh with hh|hh
        ·exact h.1 hh
        ·exact h.2 hh
       have HC:=AA hC;clear hC;clear HOv4 hbr4 hrq;generalize w4.drewN k=w5 at*;go_wp2;go_roundw
       case rel=>exact⟨i2+1,O,by go_num,by rw[HL3.out];omega,by omega,(by rw[HTh.out,if_neg HC.out,List.append_nil];exact HO.out),HOv5.out,hbr5⟩
       case measure=>simp[intOf];omega
    ·have di2:decide ((i2:Int)<(n3:Int))=false:=by simp;omega
     go_wp2;go_ret;have hi3:i2=l3.length:=by rw[HL3.out];omega
     have hOm:∀s∈O,s∈l∧s.parent=p:=fun s hs=>by
      rw[HO.out]at hs;have h:=HP3.out.mem_iff.1 (Nc hs);rw[HDl.out]at h;obtain⟨h1,h2⟩:=List.mem_filter.1 h;exact⟨h1,of_decide_eq_true h2⟩
     exact⟨u8,O,rfl,hOm,by omega,fun h12=>by rw[HO.out,hi3];exact QB (by rw[←HDl.out];exact HP3.out) (HA3.out (by rw[HDl.out];exact h12)),BF HOv.out hb3.size,hb3.trans (hbr.mono hb3.size)⟩
theorem QH(M:Int)(nC:Nat)(A:Option Addr)(c:Nat)(v:Vt)(w:World)(hv:Ae v)(hk:¬v.kind≤4):Calls Tryz.prog 167 #[.int .i64 M,v.val,.slice A nC c] w fun e w'=>e= .returned (.bool false)∧Below w.heap.size w w':=by
 obtain⟨W1,hW1⟩:∃W1,W1=w.alloc (Obj.cells v.cells 46):=⟨_,rfl⟩;have hbw1:Below w.heap.size w W1:=by rw[hW1];exact(AC _ _).alloc (AB _) _
 have hBv:Blk W1 w.heap.size 46 v.cells:=by rw[hW1];exact Blk.new _ _ _
 have hs1:W1.heap.size=w.heap.size+1:=by rw[hW1];simp
 have HVal:Hid (∀W,Calls Tryz.prog 49 #[v.val] W (Al W true)):=fun W=>by
  have h:=Cm v W ⟨by have:=hv.2.2.2.1;omega,by have:=hv.2.2.2.1;omega⟩;rwa[decide_eq_true hv]at h
 have HF1:Hid (∀W,Below W1.heap.size W1 W→AK W w.heap.size 0 22=some v.cells∧W.cell? ⟨w.heap.size,0,none⟩=some (I v.kind)):=fun W hW=>⟨(hBv.below hW (by omega)).row 22 rfl,(hBv.below hW (by omega)).cell 0⟩
 have dk:decide (v.kind>4)=true:=by simp;omega
 have HW:=AA hW1;have HB1:=AA hbw1;clear hW1 hbw1 hBv hv hk hs1;go_enter Tryz.func167,Tryz.ntmps167;go_upto_region 1 with fail
 simp only[←HW.out];have hcur:Below W1.heap.size W1 W1:=AC _ _;obtain⟨x0,y0⟩:=HF1.out _ hcur;go_wp2_with (go_at_call 49;refine(HVal.out _).mono ?_;rintro en wa ⟨rfl,hba⟩;replace hcur:=hcur.trans (hba.mono hcur.size);obtain⟨x0,y0⟩:=HF1.out _ hcur;clear HVal)
 go_ret;exact⟨rfl,HB1.out.trans (hcur.mono HB1.out.size)⟩
def KX(M:Int)(q:Nat)(v:Vt)(C:List Vt)(b:Bool):Prop:=(b=true→v.kind≤4)∧(v.kind≤4→Cq M q v C b)
theorem I2(M:Int)(nC:Nat)(A:Option Addr)(c:Nat)(C:List Vt)(v:Vt)(w:World)(hn:C.length=nC)(hr:Rd w w.heap.size A (C.flatMap vtc))(hC:∀s∈C,Px M v s)(hsm:nC≤1000000)(hv:Ae v)(hsl:(xOf M).testBit v.slot.toNat=true):Calls Tryz.prog 167 #[.int .i64 M,v.val,.slice A nC c] w fun e w'=>∃b,e= .returned (.bool b)∧Below w.heap.size w w'∧KX M (B9 (At (xOf M) 10)) v C b:=by
 by_cases hk:v.kind≤4
 ·exact(LY M nC A c C v w hn hr hC hsm hv hk hsl).mono fun e w' ⟨b,h1,h2,h3⟩=>⟨b,h1,h2,fun _=>hk,fun _=>h3⟩
 ·exact(QH M nC A c v w hv hk).mono fun e w' ⟨h1,h2⟩=>⟨false,h1,h2,fun h=>(by cases h),fun h=>absurd h hk⟩
end
end Go.Proofs.YtadllffeoibelaaGreat
