/-
  Parts of the proof. No condition.
-/
import Derived.Test.YtadllffeoibelaaGreatS4
import Derived.Laws.IdiomStrings
import Derived.Laws.BytesArg
import Derived.WalkMore
import Derived.ScopeJumps
import Derived.Great.BuildSlice
import Derived.Test.YtadllffeoibelaaGreatS5
import Derived.Great.Walk
open Go.Proofs.Tryz
namespace Go.Proofs.YtadllffeoibelaaGreat
set_option maxRecDepth 100000
set_option maxHeartbeats 32000000
set_option linter.all false
section
open Go.RowKit
def D8(s:Sg):Prop:=Ab s.vote/\s.sig.length=370
theorem KH(s:Sg)(w:World)(hs:D3 w w.heap.size s)(hn:¬D8 s):Calls prog 153 #[s.val] w (C7 w):=by
 by_cases hy:Ab s.vote
 ·exact TZ s w hs hy fun h=>hn ⟨hy,h⟩
 ·exact TY s w hs hy
def E5(s:Sg):List UInt8:=Ef s.vote++s.sig
structure Ev where
 a:Sg
 b:Sg
namespace Ev
def cells(e:Ev):Array Value:=e.a.cells++e.b.cells
abbrev val(e:Ev):Value:=.agg e.cells
theorem size_cells(e:Ev):e.cells.size=46:=by simp[cells,Sg.size_cells]
theorem cell_a(e:Ev)(j:Nat)(u:Value)(h:e.a.cells[j]? =some u):e.cells[j]? =some u:=by
 have hj:j<e.a.cells.size:=by
  rcases Nat.lt_or_ge j e.a.cells.size with h1|h1
  ·exact h1
  ·rw[Array.getElem?_eq_none h1]at h;cases h
 unfold cells;rw[Array.getElem?_append_left hj,h]
theorem cell_b(e:Ev)(j:Nat)(u:Value)(h:e.b.cells[j]? =some u):e.cells[23+j]? =some u:=by
 unfold cells;rw[Array.getElem?_append_right (by rw[Sg.size_cells];omega),Sg.size_cells,Nat.add_sub_cancel_left,h]
theorem cell_signer(e:Ev):e.cells[4]? =some (I e.a.vote.signer):=e.cell_a 4 _ (e.a.cell_vote 4 _ rfl)
end Ev
def GO(w:World)(B':Nat)(e:Ev):Prop:=D3 w B' e.a/\D3 w B' e.b
theorem GO.below{w w':World}{B':Nat}{e:Ev}(h:GO w B' e)(hb:Below B' w w'):GO w' B' e:=⟨h.1.below hb,h.2.below hb⟩
theorem GO.more{w:World}{B' B'':Nat}{e:Ev}(h:GO w B' e)(hb:B'<=B''):GO w B'' e:=⟨h.1.more hb,h.2.more hb⟩
theorem Cm:(prog.info? 62).map (·.size)=some 23:=by kernel_rfl
theorem FH:(prog.info? 125).map (·.size)=some 46:=by kernel_rfl
def Cj(e:Ev):List UInt8:=E5 e.a++E5 e.b
def Fr(e:Ev):Prop:=D8 e.a/\D8 e.b
theorem WV(e:Ev)(w:World)(hs:GO w w.heap.size e)(ha:¬D8 e.a)(hb:¬D8 e.b):Calls prog 105 #[e.val] w (C7 w):=by
 have Ha:=AA ha;clear ha;have Hb:=AA hb;clear hb;have HS:=AA hs;clear hs;go_enter func105,ntmps105;go_wp2_with (refine BT rfl 62 (.tmp 9) rfl w.heap.size 0 rfl e.a.cells _ (fun j u hj=>by rw[Nat.zero_add,(Blk.new w _ _).cell];exact e.cell_a j u hj) underlying62 rfl (by rw[Sg.size_cells];exact Cm) ?_)
 refine(KH e.a _ (((HS.out.1).below ((AC _ _).alloc (AB _) _)).more (by simp)) Ha.out).mono ?_;rintro en w1 ⟨rfl,hb⟩;have hB1:Blk w1 w.heap.size 125 e.cells:=(Blk.new w _ _).below hb (by simp);have hb1:ZN w w1:=((AC _ _).alloc (AB _) _).trans (hb.mono (by simp))
 skip
 clear hb;go_wp2_with (refine BT rfl 62 (.tmp 15) rfl w.heap.size 23 rfl e.b.cells _ (fun j u hj=>by rw[hB1.cell];exact e.cell_b j u hj) underlying62 rfl (by rw[Sg.size_cells];exact Cm) ?_)
 refine(KH e.b _ (((HS.out.2).below hb1).more hb1.size) Hb.out).mono ?_;rintro en w2 ⟨rfl,hb⟩;have hb2:ZN w w2:=hb1.trans (hb.mono hb1.size);go_wp2;go_ret2;exact⟨rfl,hb2⟩
theorem WW(e:Ev)(w:World)(hs:GO w w.heap.size e)(ha:¬D8 e.a)(hb:D8 e.b):Calls prog 105 #[e.val] w (C7 w):=by
 have Ha:=AA ha;clear ha;have Hb:=AA hb;clear hb;have HS:=AA hs;clear hs;go_enter func105,ntmps105;go_wp2_with (refine BT rfl 62 (.tmp 9) rfl w.heap.size 0 rfl e.a.cells _ (fun j u hj=>by rw[Nat.zero_add,(Blk.new w _ _).cell];exact e.cell_a j u hj) underlying62 rfl (by rw[Sg.size_cells];exact Cm) ?_)
 refine(KH e.a _ (((HS.out.1).below ((AC _ _).alloc (AB _) _)).more (by simp)) Ha.out).mono ?_;rintro en w1 ⟨rfl,hb⟩;have hB1:Blk w1 w.heap.size 125 e.cells:=(Blk.new w _ _).below hb (by simp);have hb1:ZN w w1:=((AC _ _).alloc (AB _) _).trans (hb.mono (by simp))
 skip
 clear hb;go_wp2_with (refine BT rfl 62 (.tmp 15) rfl w.heap.size 23 rfl e.b.cells _ (fun j u hj=>by rw[hB1.cell];exact e.cell_b j u hj) underlying62 rfl (by rw[Sg.size_cells];exact Cm) ?_)
 refine(Ie e.b _ (((HS.out.2).below hb1).more hb1.size) Hb.out.1 Hb.out.2).mono ?_;rintro en w2 ⟨A2,c2,rfl,xG,hb⟩;have hb2:ZN w w2:=hb1.trans (hb.mono hb1.size);go_wp2;go_ret2;exact⟨rfl,hb2⟩
theorem WX(e:Ev)(w:World)(hs:GO w w.heap.size e)(ha:D8 e.a)(hb:¬D8 e.b):Calls prog 105 #[e.val] w (C7 w):=by
 have Ha:=AA ha;clear ha;have Hb:=AA hb;clear hb;have HS:=AA hs;clear hs;go_enter func105,ntmps105;go_wp2_with (refine BT rfl 62 (.tmp 9) rfl w.heap.size 0 rfl e.a.cells _ (fun j u hj=>by rw[Nat.zero_add,(Blk.new w _ _).cell];exact e.cell_a j u hj) underlying62 rfl (by rw[Sg.size_cells];exact Cm) ?_)
 refine(Ie e.a _ (((HS.out.1).below ((AC _ _).alloc (AB _) _)).more (by simp)) Ha.out.1 Ha.out.2).mono ?_;rintro en w1 ⟨A1,c1,rfl,xo,hb⟩;have hB1:Blk w1 w.heap.size 125 e.cells:=(Blk.new w _ _).below hb (by simp);have hb1:ZN w w1:=((AC _ _).alloc (AB _) _).trans (hb.mono (by simp));replace xo:=BE xo (show w.heap.size<=_ by simp);clear hb;go_wp2_with (refine BT rfl 62 (.tmp 15) rfl w.heap.size 23 rfl e.b.cells _ (fun j u hj=>by rw[hB1.cell];exact e.cell_b j u hj) underlying62 rfl (by rw[Sg.size_cells];exact Cm) ?_)
 refine(KH e.b _ (((HS.out.2).below hb1).more hb1.size) Hb.out).mono ?_;rintro en w2 ⟨rfl,hb⟩;have hb2:ZN w w2:=hb1.trans (hb.mono hb1.size);go_wp2;go_ret2;exact⟨rfl,hb2⟩
theorem WY(e:Ev)(w:World)(hs:GO w w.heap.size e)(ha:D8 e.a)(hb:D8 e.b):Calls prog 105 #[e.val] w (Gg w 5 1 786 ((Cj e).map B)):=by
 have Ha:=AA ha;clear ha;have Hb:=AA hb;clear hb;have HS:=AA hs;clear hs;go_enter func105,ntmps105;go_wp2_with (refine BT rfl 62 (.tmp 9) rfl w.heap.size 0 rfl e.a.cells _ (fun j u hj=>by rw[Nat.zero_add,(Blk.new w _ _).cell];exact e.cell_a j u hj) underlying62 rfl (by rw[Sg.size_cells];exact Cm) ?_)
 refine(Ie e.a _ (((HS.out.1).below ((AC _ _).alloc (AB _) _)).more (by simp)) Ha.out.1 Ha.out.2).mono ?_;rintro en w1 ⟨A1,c1,rfl,xo,hb⟩;have hB1:Blk w1 w.heap.size 125 e.cells:=(Blk.new w _ _).below hb (by simp);have hb1:ZN w w1:=((AC _ _).alloc (AB _) _).trans (hb.mono (by simp));replace xo:=BE xo (show w.heap.size<=_ by simp);clear hb;go_wp2_with (refine BT rfl 62 (.tmp 15) rfl w.heap.size 23 rfl e.b.cells _ (fun j u hj=>by rw[hB1.cell];exact e.cell_b j u hj) underlying62 rfl (by rw[Sg.size_cells];exact Cm) ?_)
 refine(Ie e.b _ (((HS.out.2).below hb1).more hb1.size) Hb.out.1 Hb.out.2).mono ?_;rintro en w2 ⟨A2,c2,rfl,xG,hb⟩;have hb2:ZN w w2:=hb1.trans (hb.mono hb1.size);replace xo:=Ay xo hb (AB _);replace xG:=BE xG hb1.size;clear hb hb1 hB1;go_wp2_with (at_builtin;refine Ar rfl (.tmp 26) (.tmp 27) _ rfl w.heap.size 5 (.int .u8 0) 1 1 underlying60 Bf rfl (by decide) (.slice A1 393 c1) (393) ((Ef e.a.vote++e.a.sig).map B) rfl ?r0 (w2.heap.size) (A2) (393) (c2) ((Ef e.b.vote++e.b.sig).map B) rfl ?r1 ?r2 ?r3 ?r4 ?r5 ?r6 ?_)
 case r0=>exact xo
 case r1=>have:=xG.1;simpa using this
 case r2=>exact Rd.of_own xG
 case r3=>exact fun u hu=>Ba hu
 case r4=>omega
 case r5=>unfold maxLen;omega
 case r6=>exact hb2.size
 intro v3 w3 xD hg3 yb;have hb3:ZN w w3:=BJ hb2 xo hg3;clear hg3 yb;obtain⟨A3,c3,rfl⟩:=Av xD;go_wp2;go_ret2;refine⟨A3,c3,rfl,?_,hb3⟩;have h:(Cj e).map B=(Ef e.a.vote++e.a.sig).map B++(Ef e.b.vote++e.b.sig).map B:=by rw[Cj,E5,E5,<-Ae]
 rw[h];exact xD
theorem Ug(e:Ev)(w:World)(hs:GO w w.heap.size e)(h:Fr e):Calls prog 105 #[e.val] w (Gg w 5 1 786 ((Cj e).map B)):=WY e w hs h.1 h.2
theorem WZ(e:Ev)(w:World)(hs:GO w w.heap.size e)(h:¬Fr e):Calls prog 105 #[e.val] w (C7 w):=by
 by_cases ha:D8 e.a
 ·by_cases hb:D8 e.b
  ·exact absurd ⟨ha,hb⟩ h
  ·exact WX e w hs ha hb
 ·by_cases hb:D8 e.b
  ·exact WW e w hs ha hb
  ·exact WV e w hs ha hb
abbrev evc(e:Ev):List Value:=e.cells.toList
def sgn(e:Ev):Int:=e.a.vote.signer
def GoodUpto(es:List Ev)(k:Nat):Prop:=∀i e,i<k->es[i]? =some e->Fr e/\(∀j d,es[j]? =some d->j+1=i->sgn d<sgn e)
def Fs(es:List Ev):Prop:=es≠[]/\es.length<=10/\GoodUpto es es.length
def Hd(es:List Ev):Nat->Int
 |0=> -1
 |k+1=>match es[k]? with
  |some d=>sgn d
  |none=> -1
def DJ(es:List Ev)(k:Nat):List UInt8:=UInt8.ofNat es.length::(es.take k).flatMap Cj
theorem Gp(es:List Ev):∀e∈es,(evc e).length=46:=fun e _=>by simp[evc,Ev.size_cells]
def Ys(w:World)(B':Nat)(es:List Ev):Prop:=∀e∈es,GO w B' e
theorem SS{es:List Ev}{k:Nat}{e:Ev}(h:GoodUpto es k)(hk:es[k]? =some e)(he:Fr e)(hs:Hd es k<sgn e):GoodUpto es (k+1):=by
 intro i d hi hd;rcases Nat.lt_or_ge i k with h1|h1
 ·exact h i d h1 hd
 ·obtain rfl:i=k:=by omega
  rw[hk]at hd;injection hd with hd
  subst hd;refine⟨he,fun j d hj hjk=>?_⟩;subst hjk;simp only[Hd,hj]at hs;exact hs
theorem Od{es:List Ev}{k:Nat}{e:Ev}(hk:es[k]? =some e)(h:¬Fr e∨(Fr e/\¬Hd es k<sgn e)):¬Fs es:=by
 intro hb;have hlt:k<es.length:=(AE.1 hk).1;have hg:=hb.2.2 k e hlt hk;rcases h with h|⟨h0,h⟩
 ·exact h hg.1
 ·apply h
  match k,hk,hg with
  |0,hk,hg=>
   have:=h0.1.1.bounds;simp only[Hd,sgn];omega
  |k+1,hk,hg=>
   have hk':k<es.length:=by omega
   have hd:es[k]? =some es[k]:=AD hk';simp only[Hd,hd];exact hg.2 k _ hd rfl
theorem LD{es:List Ev}{k:Nat}{e:Ev}(hk:es[k]? =some e):DJ es (k+1)=DJ es k++Cj e:=by
 have hlt:k<es.length:=(AE.1 hk).1;have:es[k]=e:=by rw[AD hlt]at hk;exact Option.some.inj hk
 simp only[DJ];rw[List.take_succ_eq_append_getElem hlt,this];simp
theorem Uh{e:Ev}(h:Fr e):(Cj e).length=786:=by
 have h1:=h.1.2;have h2:=h.2.2;simp[Cj,E5,Ef,Nm.bytes,h1,h2]
theorem MP{es:List Ev}:∀{k:Nat},GoodUpto es k->k<=es.length->(DJ es k).length=1+786*k
 |0,_,_=>by simp[DJ]
 |k+1,h,hk=>by
  have hd:es[k]? =some es[k]:=AD hk;rw[LD hd,AF,MP (fun i e hi=>h i e (by omega)) (by omega),Uh (h k _ (by omega) hd).1];omega
theorem Sg.one(s:Sg):∀u∈s.cells.toList,u.oneCell'=true:=by
 intro u hu;simp[Sg.cells]at hu;rcases hu with h|h|h|h|h|h|h|h|h|h|h|h|h|h|h|h|h|h|h|h|h|h|h <;> subst h <;> rfl
theorem Ev.one(e:Ev):∀u∈e.cells.toList,u.oneCell'=true:=by
 intro u hu;simp only[Ev.cells,Array.toList_append,AP]at hu;rcases hu with h|h
 ·exact e.a.one u h
 ·exact e.b.one u h
theorem Bb{w w':World}{base e size n:Nat}{row:Option Nat}{v:Value}{xs:List Value}(h:w.ownsRow base e size v n xs)(hg:w.grownBy w' row)(hr:∀k,row=some k->w.heap.size<=k∨v.ownBlock≠some k):w'.ownsRow base e size v n xs:=by
 refine⟨h.1,?_⟩;rcases h.2 with h2|⟨g,cap,cur,rfl,h1,hh,r⟩
 ·exact .inl h2
 ·refine .inr ⟨g,cap,cur,rfl,h1,(hg.block g (lt_of_block hh) ?_).trans hh,r⟩;intro e;rcases hr g e.symm with h3|h3
  ·have:=lt_of_block hh;omega
  ·exact h3 rfl
def JP(w:World)(es:List Ev)(en:Ending)(w':World):Prop:=
 (Fs es/\Gg w 5 1 (1+786*es.length) ((DJ es es.length).map B) en w')∨(¬Fs es/\C7 w en w')
theorem ST(A:Option Addr)(c:Nat)(es:List Ev)(w:World)(hr:Rd w w.heap.size A (es.flatMap evc))(hes:Ys w w.heap.size es)(xS:es.length<=1000000):Calls prog 67 #[.slice A es.length c] w (JP w es):=by
 by_cases h0:es.length=0
 ·have hn:¬Fs es:=fun h=>h.1 (AV h0)
  have HN:=AA hn;clear hn;have hz:((es.length:Int)==0)=true:=by rw[h0];rfl
  clear h0;go_enter func67,ntmps67;go_wp2;go_ret2;exact .inr ⟨HN.out,rfl,AC _ _⟩
 have hz:((es.length:Int)==0)=false:=by rw[beq_eq_false_iff_ne];omega
 by_cases h10:10<es.length
 ·have hn:¬Fs es:=fun h=>by have:=h.2.1;omega
  have HN:=AA hn;clear hn;go_enter func67,ntmps67;go_wp2;go_ret2;exact .inr ⟨HN.out,rfl,AC _ _⟩
 obtain⟨b,o,rfl,hb,xH⟩:=hr.cells (by
  intro h;have:=AY evc 46 es (Gp es);rw[h]at this;simp at this;omega)
 have Hes:=AA hes;clear hes;have yz:=AA xH;clear xH hr;have hd10:decide (10<(es.length:Int))=false:=by simp;omega
 go_enter func67,ntmps67;go_wp2
 go_loopw [4,5,24] (fun p q i wr=>∃k:Nat,k<=es.length/\i= .int .i64 k/\q= .int .i64 (Hd es k)/\GoodUpto es k/\wr.ownsRow w.heap.size 5 1 p (1+786*k) ((DJ es k).map B)/\ZN w wr)
  (fun _ _ i _=>es.length-(intOf i).toNat)
 case atStart=>
  refine⟨0,Nat.zero_le _,rfl,rfl,fun i e hi=>absurd hi (by omega),?_,(AC _ _).alloc (AB _) _⟩;have e:(DJ es 0).map B=[Value.int .u8 es.length]:=by
   simp[DJ];omega
  rw[e];exact World.ownsRow_lit w _ 1 (AB _) (by unfold maxLen;omega) rfl
 case round=>
  obtain⟨k,hk,rfl,rfl,zu,xA,hbw⟩:=hrel;by_cases hlt:k<es.length
  ·obtain⟨e,he⟩:∃e,es[k]? =some e:=⟨_,AD hlt⟩;have He:=AA he;clear he;have hDg:=AA zu;clear zu;have yZ:e∈es:=AM He.out;have hc:∀j u,e.cells[j]? =some u->wr.cell? ⟨b,o+k*46+j,none⟩=some u:=by
    intro j u hj;rw[hbw.cell (p:=⟨b,_,none⟩) hb,Nat.add_assoc];refine yz.out _ u ?_;have hj':j<46:=by
     have:=(Aa.1 hj).1;rw[Ev.size_cells]at this;exact this
    rw[B4 evc 46 es (Gp es) k j e He.out hj'];simpa[evc]using hj
   have Hc:=AA hc;clear hc;have HOk:GO wr w.heap.size e:=(Hes.out e yZ).below hbw;go_wp2_with (first
    |(refine BT rfl 125 (.tmp 26) rfl b (o+k*46) rfl e.cells _ Hc.out underlying125 rfl (by rw[Ev.size_cells];exact FH) ?_)
    |(refine AI rfl 125 (.tmp 7) (.tmp 27) rfl wr.heap.size e.cells rfl rfl 125 _ (Blk.new wr _ _) ?s1 (by rw[Ev.size_cells];exact FH) ?s2 ?_))
   case s1=>rw[Ev.size_cells];rfl
   case s2=>exact e.one
   intro w1 hB1 hg1 hs1;have hle:=hbw.size;have xQ:ZN w w1:=(hbw.alloc hbw.size _).grown hg1 (by simp;omega) (by rintro k ⟨⟩;exact hle);have xo:w1.ownsRow w.heap.size 5 1 u4 (1+786*k) ((DJ es k).map B):=Bb (xA.alloc _) hg1 (by rintro j ⟨⟩;exact .inr fun h=>by have:=(xA.lt _ h).2;omega);have hIO:GO w1 w1.heap.size e:=((Hes.out e yZ).below xQ).more xQ.size;clear hg1 xA hbw HOk;obtain⟨A0,c0,rfl⟩:=Av xo;go_wp2_with (refine BT rfl 125 (.tmp 7) rfl wr.heap.size 0 rfl e.cells _ (fun j u hj=>by rw[Nat.zero_add,hB1.cell];exact hj) underlying125 rfl (by rw[Ev.size_cells];exact FH) ?_)
   by_cases hEnc:Fr e
   ·have hCt:=AA hEnc;clear hEnc;refine(Ug e _ hIO hCt.out).mono ?_;rintro en w2 ⟨A2,c2,rfl,xG,hb2⟩;have hB2:Blk w2 wr.heap.size 125 e.cells:=hB1.below hb2 hB1.lt;have xB:ZN w w2:=xQ.trans (hb2.mono xQ.size);have hCK:=Ay xo hb2 (AB _);replace xG:=BE xG xQ.size;clear xo hB1 xQ hb2;have c4:w2.cell? ⟨wr.heap.size,4,none⟩=some (I (sgn e)):=(hB2.cell 4).trans e.cell_signer;by_cases hS:Hd es k<sgn e
    ·have hle:decide (sgn e<=Hd es k)=false:=by simp;omega
     go_wp2_with (at_builtin;refine Ar rfl (.tmp 47) (.tmp 48) _ rfl w.heap.size 5 (.int .u8 0) 1 1 underlying60 Bf rfl (by decide) (.slice A0 (1+786*k) c0) (1+786*k) ((DJ es k).map B) rfl ?r0 (w2.heap.size) (A2) (786) (c2) ((Cj e).map B) rfl ?r1 ?r2 ?r3 ?r4 ?r5 ?r6 ?_)
     case r0=>exact hCK
     case r1=>have:=xG.1;simpa using this
     case r2=>exact Rd.of_own xG
     case r3=>exact fun u hu=>Ba hu
     case r4=>omega
     case r5=>unfold maxLen;omega
     case r6=>exact xB.size
     intro v3 w3 xD hg3 yb;have xJ:ZN w w3:=BJ xB hCK hg3;clear hg3 yb hCK xG xB hB2 c4;have HS:=AA hS;clear hS;go_wp2;go_roundw
     case rel=>
      refine⟨k+1,by omega,by go_num,?_,SS hDg.out He.out hCt.out HS.out,?_,xJ⟩
      ·simp only[Hd,He.out]
      ·rw[LD He.out,Ae];have e1:1+786*(k+1)=1+786*k+786:=by omega
       rw[e1];exact xD
     case measure=>simp[intOf];omega
    ·have hle:decide (sgn e<=Hd es k)=true:=by simp;omega
     have HS:=AA hS;clear hS;go_wp2;go_ret2;exact .inr ⟨Od He.out (.inr ⟨hCt.out,Int.not_lt.2 HS.out⟩),rfl,xB⟩
   ·have hCt:=AA hEnc;clear hEnc;refine(WZ e _ hIO hCt.out).mono ?_;rintro en w2 ⟨rfl,hb2⟩;have xB:ZN w w2:=xQ.trans (hb2.mono xQ.size);go_wp2;go_ret2;exact .inr ⟨Od He.out (.inl hCt.out),rfl,xB⟩
  ·obtain rfl:k=es.length:=by omega
   have hDg:=AA zu;clear zu;obtain⟨A0,c0,rfl⟩:=Av xA;go_wp2;go_ret2;exact .inl ⟨⟨by rintro rfl;simp at h0,by omega,hDg.out⟩,A0,c0,rfl,xA,hbw⟩
abbrev Ad:Array Value:=#[.int .i64 0,.int .i64 0,.int .i64 0,.int .i64 0,.int .i64 0,.int .i64 0,.int .u8 0,.int .u8 0,.int .u8 0,.int .u8 0,.int .u8 0,.int .u8 0,.int .u8 0,.int .u8 0,.int .u8 0,.int .u8 0,.int .u8 0,.int .u8 0,.int .u8 0,.int .u8 0,.int .u8 0,.int .u8 0]
theorem BO{u:Value}(v:Vt)(h:u∈v.cells.toList):u.oneCell'=true:=by
 simp at h;rcases h with rfl|rfl|rfl|rfl|rfl|rfl|rfl|rfl|rfl|rfl|rfl|rfl|rfl|rfl|rfl|rfl|rfl|rfl|rfl|rfl|rfl|rfl <;> rfl
theorem Ft{P:Program}{w:World}{o:Oper}{a:Act}{K:Act->World->Prop}{Q:Exit->Act->World->Prop}(d:Option Tmp)(hd:o.dst=d)(s x:Operand)(t:TypeId)(ho:o.op= .call {callee:=.builtin .append,args:=#[s,x],argTypes:=#[t,t]})
  (base:Nat) (e:TypeId) (z:Value) (size bytes:Nat) (ht:P.underlying t=some (.slice e)) (hi:(P.info? e).map (fun i=>(i.zero,i.size,i.bytes))=some (some z,size,bytes)) (hzs:z.cells.size=size) (hsz:0<size)
  (v:Value) (n:Nat) (xs:List Value) (hs:a.eval s=v) (xA:w.ownsRow base e size v n xs)
  (B:Nat) (A:Option Addr) (m c:Nat) (news:List Value) (hx:a.eval x= .slice A m c) (hl:news.length=m*size) (hr:Rd w B A news) (h1:∀u∈news,u.oneCell'=true)
  (zB:(n+m)*bytes<=140737488355328) (h63:n+m<=maxLen) (yT:base<=w.heap.size)
  (h:∀v' w',w'.ownsRow base e size v' (n+m) (xs++news)->w.grownBy w' v.ownBlock->(v'.ownBlock=v.ownBlock∨v'.ownBlock=some w.heap.size)->K (a.put d v') w'):
  o.wp P a w K Q:=by
 subst hd;exact W4 s x t ho base e z size bytes ht hi hzs hsz v n xs hs xA B A m c news hx hl hr h1 zB h63 yT h
theorem Ui{w:World}{base e size n c:Nat}{A:Option Addr}{xs:List Value}(h:w.ownsRow base e size (.slice A n c) n xs)(p:Addr)(hp:A=some p):base<=p.block:=by
 rcases h.2 with⟨hv,_⟩|⟨g,cap,cur,hv,hb,_⟩
 ·injection hv with hA;rw[hp]at hA;cases hA
 ·injection hv with hA;rw[hp]at hA;injection hA with hA;subst hA;exact hb
theorem Rd.kept{w w':World}{B':Nat}{A:Option Addr}{xs:List Value}{row:Option Nat}(h:Rd w B' A xs)(hg:w.grownBy w' row)(hB:B'<=w.heap.size)(hne:∀p,A=some p->some p.block≠row):Rd w' B' A xs:=by
 rcases h with h|⟨b,o,rfl,hb,hc⟩
 ·exact .inl h
 ·exact .inr ⟨b,o,rfl,hb,fun j u hu=>(World.cell?_of_block (a:=⟨b,o+j,none⟩) (hg.block b (by omega) (hne _ rfl))).trans (hc j u hu)⟩
abbrev Al:Array Value:=#[.int .i64 0,.int .i64 0,.int .i64 0,.int .i64 0,.int .i64 0,.int .i64 0,.int .u8 0,.int .u8 0,.int .u8 0,.int .u8 0,.int .u8 0,.int .u8 0,.int .u8 0,.int .u8 0,.int .u8 0,.int .u8 0,.int .u8 0,.int .u8 0,.int .u8 0,.int .u8 0,.int .u8 0,.int .u8 0,.slice none 0 0]
theorem IH{u:Value}(h:u∈Al.toList):u.oneCell'=true:=by
 simp at h;rcases h with rfl|rfl|rfl <;> rfl
theorem CR{u:Value}(h:u∈Ad.toList):u.oneCell'=true:=by
 simp at h;rcases h with rfl|rfl <;> rfl
theorem GP{u:Value}(s:Sg)(h:u∈s.cells.toList):u.oneCell'=true:=by
 unfold Sg.cells at h;rw[Array.toList_push,AP]at h;rcases h with h|h
 ·exact BO _ h
 ·simp at h;subst h;rfl
theorem Bm:(prog.info? 62).map (·.size)=some 23:=by kernel_rfl
abbrev B7:Array Value:=#[.int .i64 0,.int .i64 0,.int .i64 0,.int .i64 0,.int .i64 0,.int .i64 0,.int .u8 0,.int .u8 0,.int .u8 0,.int .u8 0,.int .u8 0,.int .u8 0,.int .u8 0,.int .u8 0,.int .u8 0,.int .u8 0,.int .u8 0,.int .u8 0,.int .u8 0,.int .u8 0,.int .u8 0,.int .u8 0,.slice none 0 0,.int .i64 0,.int .i64 0,.int .i64 0,.int .i64 0,.int .i64 0,.int .i64 0,.int .u8 0,.int .u8 0,.int .u8 0,.int .u8 0,.int .u8 0,.int .u8 0,.int .u8 0,.int .u8 0,.int .u8 0,.int .u8 0,.int .u8 0,.int .u8 0,.int .u8 0,.int .u8 0,.int .u8 0,.int .u8 0,.slice none 0 0]
theorem P8{u:Value}(h:u∈B7.toList):u.oneCell'=true:=by
 simp at h;rcases h with rfl|rfl|rfl|rfl|rfl|rfl <;> rfl
theorem JQ{u:Value}(e:Ev)(h:u∈e.cells.toList):u.oneCell'=true:=by
 unfold Ev.cells at h;rw[Array.toList_append,AP]at h;rcases h with h|h
 ·exact GP _ h
 ·exact GP _ h
abbrev Uj(v:Vt)(x:Value):Array Value:=#[I v.kind,I v.slot,I v.round,I v.choice,I v.signer,I v.support,B v.parent.b0,B v.parent.b1,B v.parent.b2,B v.parent.b3,B v.parent.b4,B v.parent.b5,B v.parent.b6,B v.parent.b7,B v.value.b0,B v.value.b1,B v.value.b2,B v.value.b3,B v.value.b4,B v.value.b5,B v.value.b6,B v.value.b7,x]
abbrev Uk(v:Vt)(x:Value)(v':Vt)(x':Value):Array Value:=#[I v.kind,I v.slot,I v.round,I v.choice,I v.signer,I v.support,B v.parent.b0,B v.parent.b1,B v.parent.b2,B v.parent.b3,B v.parent.b4,B v.parent.b5,B v.parent.b6,B v.parent.b7,B v.value.b0,B v.value.b1,B v.value.b2,B v.value.b3,B v.value.b4,B v.value.b5,B v.value.b6,B v.value.b7,x,I v'.kind,I v'.slot,I v'.round,I v'.choice,I v'.signer,I v'.support,B v'.parent.b0,B v'.parent.b1,B v'.parent.b2,B v'.parent.b3,B v'.parent.b4,B v'.parent.b5,B v'.parent.b6,B v'.parent.b7,B v'.value.b0,B v'.value.b1,B v'.value.b2,B v'.value.b3,B v'.value.b4,B v'.value.b5,B v'.value.b6,B v'.value.b7,x']
theorem P9(v:Vt)(sig:List UInt8)(A:Option Addr)(c:Nat):(Sg.mk v sig A c).cells=Uj v (.slice A sig.length c):=rfl
theorem QA(v:Vt)(sig:List UInt8)(A:Option Addr)(c:Nat)(v':Vt)(sig':List UInt8)(A':Option Addr)(c':Nat):(Ev.mk ⟨v,sig,A,c⟩ ⟨v',sig',A',c'⟩).cells=Uk v (.slice A sig.length c) v' (.slice A' sig'.length c'):=by
 simp[Ev.cells,Sg.cells]
theorem De:(prog.info? 125).map (·.size)=some 46:=by kernel_rfl
def Du(keys:List Nm)(a:Vt)(asig:List UInt8)(b:Vt)(bsig:List UInt8)(before:Int):Int:=
 if CN a b/\BU a b=true then
  if a.signer<=before then 10
  else if(keys.length:Int)<=a.signer then 8
  else if Er (keys.getD a.signer.toNat Nm.zero) a asig=true/\Er (keys.getD a.signer.toNat Nm.zero) b bsig=true then 0 else 8
 else 9
def EL(w:World)(n:Int)(e:Ending)(w':World):Prop:=e= .returned (.int .i64 n)/\ZN w w'
theorem Ev.row_va{w:World}{g t:Nat}(e:Ev)(h:Blk w g t e.cells):AJ w g 0 22=some e.a.vote.cells:=
 Blk.part h 0 e.a.vote.cells (fun j u hu=>by rw[Nat.zero_add];exact e.cell_a j u (e.a.cell_vote j u hu))
theorem Ev.row_vb{w:World}{g t:Nat}(e:Ev)(h:Blk w g t e.cells):AJ w g 23 22=some e.b.vote.cells:=
 Blk.part h 23 e.b.vote.cells (fun j u hu=>e.cell_b j u (e.b.cell_vote j u hu))
theorem Ev.row_a{w:World}{g t:Nat}(e:Ev)(h:Blk w g t e.cells):AJ w g 0 23=some e.a.cells:=by
 have:=Blk.part h 0 e.a.cells (fun j u hu=>by rw[Nat.zero_add];exact e.cell_a j u hu);rwa[Sg.size_cells]at this
theorem Ev.row_b{w:World}{g t:Nat}(e:Ev)(h:Blk w g t e.cells):AJ w g 23 23=some e.b.cells:=by
 have:=Blk.part h 23 e.b.cells (fun j u hu=>e.cell_b j u hu);rwa[Sg.size_cells]at this
theorem Rd.row{w:World}{B':Nat}{b o:Nat}{l:List Nm}{k:Nat}{x:Nm}(h:Rd w B' (some ⟨b,o,none⟩) (l.flatMap nmc))(hk:l[k]? =some x):AJ w b (o+k*8) 8=some x.cells:=by
 obtain⟨b',o',e,_,hc⟩:=h.name hk;injection e with e
 injection e with e1 e2
 subst e1;subst e2;exact Bq (fun j u hu=>hc j u (by simpa using hu)) rfl
end
section
open Go.RowKit
attribute [local go_sem ↓] Go.wp_at_zero Go.wp_at_succ Aj Ao Ap Aq
attribute [local go_sem] Ax BB BC BD AK AR AN
def Fc(keys:List Nm)(v:Vt)(sig:List UInt8):Bool:=decide (0<=v.signer)&&(decide (v.signer<(keys.length:Int))&&Er (keys.getD v.signer.toNat Nm.zero) v sig)
theorem BS{P:Program}{ops:Array Oper}{rest:List Oper}{o:Oper}{a:Act}{w:World}{Q:Exit->Act->World->Prop}(hg:o.guard=none)(t e:TypeId)(x:Operand)(ho:o.op= .buildSlice t 1 #[(0,x)])(cs:Array Value)(hx:a.eval x= .agg cs)(hu:P.underlying t=some (.slice e))(hi:(P.info? e).map (fun i=>(i.zero.isSome,i.size))=some (true,cs.size))(yF:0<cs.size)(hsm:cs.size<=1000)(h:wpList P ops Q rest (a.put o.dst (.slice (some ⟨w.heap.size,0,none⟩) 1 1)) (w.alloc (.cells cs e))):wpList P ops Q (o::rest) a w:=by
 cases hie:P.info? e with
 |none=>simp[hie]at hi
 |some ie=>
  simp only[hie,Option.map_some,Option.some.injEq,Prod.mk.injEq]at hi;obtain⟨hz,hsz⟩:=hi;obtain⟨z,hzz⟩:=Option.isSome_iff_exists.1 hz;refine wpList_buildSlice hg t e 1 #[(0,x)] ho cs ie z hu hie hzz (by rw[hsz];omega) (by rw[hsz];omega) ?_ h;have hf:=Great.fill_whole (s:=ie.size) (by rw[hsz];exact yF) [Value.agg cs] ((Array.range (1*ie.size)).map (z.cells[· %z.cells.size]!)) (by intro v hv;rw[AU.1 hv,hsz];rfl) (by simp);have ev:(#[(0,x)].map fun((i,x):Nat×Operand)=>(i,a.eval x)).toList=([Value.agg cs].zipIdx 0).map fun x=>(x.2,x.1):=by simp[hx]
  rw[ev,hf];simp[Value.cells]
theorem CT:(prog.info? 62).map (fun i=>(i.zero,i.size,i.bytes))=some (some (.agg Al),23,88):=by kernel_rfl
abbrev sgc(s:Sg):List Value:=s.cells.toList
theorem Cc(l:List Sg):∀s∈l,(sgc s).length=23:=fun s _=>by rw[Array.length_toList];exact s.size_cells
theorem Rd.sgRow{w:World}{B' b o:Nat}{l:List Sg}{k:Nat}{s:Sg}(h:Rd w B' (some ⟨b,o,none⟩) (l.flatMap sgc))(hk:l[k]? =some s):AJ w b (o+k*23) 23=some s.cells:=by
 have yF:=(AE.1 hk).1;rcases h with h|⟨b',o',e,hb,hc⟩
 ·have:=AY sgc 23 l (Cc l);rw[h]at this;simp at this;omega
 ·injection e with e
  injection e with e1 e2
  subst e1;subst e2;refine Bq (fun j u hu=>?_) s.size_cells;have hj:j<23:=by
   have:=(AE.1 hu).1;rwa[Array.length_toList,s.size_cells]at this
  rw[Nat.add_assoc];refine hc _ u ?_;rw[B4 sgc 23 l (Cc l) k j s hk hj,<-hu]
def vfd(keys:List Nm)(l:List Sg):List Sg:=l.filter fun s=>Fc keys s.vote s.sig
theorem Oe{keys:List Nm}{l:List Sg}{i:Nat}{s:Sg}(h:l[i]? =some s):vfd keys (l.take (i+1))=vfd keys (l.take i)++if Fc keys s.vote s.sig=true then[s]else[]:=by
 obtain⟨hi,rfl⟩:=AE.1 h;unfold vfd;rw[List.take_succ_eq_append_getElem hi,List.filter_append];congr 1;by_cases hv:Fc keys l[i].vote l[i].sig=true
 ·rw[if_pos hv];simp[hv]
 ·rw[if_neg hv];simp[hv]
theorem Xw(keys:List Nm)(l:List Sg)(i:Nat):(vfd keys (l.take i)).length<=i:=by
 have h1:=List.length_filter_le (fun s:Sg=>Fc keys s.vote s.sig) (l.take i);rw[AZ]at h1;unfold vfd;omega
def CO(w:World)(B':Nat)(l:List Sg):Prop:=∀s∈l,D3 w B' s/\GA s
theorem CO.below{w w':World}{B':Nat}{l:List Sg}(h:CO w B' l)(hb:Below B' w w'):CO w' B' l:=fun s hs=>⟨(h s hs).1.below hb,(h s hs).2⟩
def Xx(keys:List Nm)(l:List Sg)(w:World)(n:Nat)(v iv:Value)(wr:World):Prop:=
 ∃(i:Nat),iv= .int .i64 (i:Int)/\i<=n/\wr.ownsRow w.heap.size 62 23 v (vfd keys (l.take i)).length ((vfd keys (l.take i)).flatMap sgc)/\ZN w wr
end
section
open Go.RowKit
abbrev vtc(v:Vt):List Value:=v.cells.toList
theorem Cd(l:List Vt):∀v∈l,(vtc v).length=22:=fun _ _=>rfl
theorem Rd.voteRow{w:World}{B' b o:Nat}{l:List Vt}{k:Nat}{v:Vt}(h:Rd w B' (some ⟨b,o,none⟩) (l.flatMap vtc))(hk:l[k]? =some v):AJ w b (o+k*22) 22=some v.cells:=by
 have yF:=(AE.1 hk).1;rcases h with h|⟨b',o',e,hb,hc⟩
 ·have:=AY vtc 22 l (Cd l);rw[h]at this;simp at this;omega
 ·injection e with e
  injection e with e1 e2
  subst e1;subst e2;refine Bq (fun j u hu=>?_) rfl;have hj:j<22:=by
   have:=(AE.1 hu).1;simpa using this
  rw[Nat.add_assoc];refine hc _ u ?_;rw[B4 vtc 22 l (Cd l) k j v hk hj,<-hu]
end
section
open Go.RowKit
attribute [local go_sem ↓] Go.wp_at_zero Go.wp_at_succ Aj Ao Ap Aq
attribute [local go_sem] Ax BB BC BD AK AR AN
theorem B3.vt{T:List Value}{w0 W:World}{g i:Nat}{l:List Vt}{x:Vt}(h:B3 ⟨vtc,T⟩ 46 w0 g l W)(hx:l[i]? =some x):AJ W g (i*22) 22=some x.cells:=by
 refine Bq (fun j u hu=>?_) rfl;have:=Ek (c:=⟨vtc,T⟩) (m:=22) (fun _=>rfl) h.blk i j x u hx (by simpa using hu);rwa[Nat.zero_add]at this
theorem QB(T:List Value)(B g n c:Nat)(l0:List Vt)(w0:World)(hB:Blk w0 B 56 #[.slice (some ⟨g,0,none⟩) n c])(hne:B≠g)(hn:l0.length=n):G9 ⟨vtc,T⟩ 46 w0 g l0 BU 221 #[.pointer (some ⟨B,0,none⟩)]:=by
 intro W l i j x y hr hp hx hy;have hi:i<n:=by rw[<-hn,<-hp.length_eq];exact(AE.1 hx).1
 have hj:j<n:=by rw[<-hn,<-hp.length_eq];exact(AE.1 hy).1
 have hc0:W.cell? ⟨B,0,none⟩=some (.slice (some ⟨g,0,none⟩) n c):=(hr.box hB hne).cell 0;have xT:Hid (∀V,ZN W V->V.cell? ⟨B,0,none⟩=some (.slice (some ⟨g,0,none⟩) n c)/\AJ V g (i*22) 22=some x.cells/\AJ V g (j*22) 22=some y.cells):=
  fun V hV=>⟨(hV.cell (p:=⟨B,0,none⟩) (hr.box hB hne).lt).trans hc0,BH (hr.vt hx) hV hr.blk.lt,BH (hr.vt hy) hV hr.blk.lt⟩
 have HL:Hid (∀V,ZN W V->Calls prog 109 #[x.val,y.val] V (Ac V (BU x y))):=
  fun V hV=>Gl x y V
 obtain⟨r,hrr⟩:=ZH (BU x y);rw[<-hrr]at HL ⊢;clear hrr hc0 hr hp hx hy hB hn;have hbw:ZN W W:=AC _ _;show Calls prog 221 #[.int .i64 (i:Int),.int .i64 (j:Int),.pointer (some ⟨B,0,none⟩)] W _;go_enter func221,ntmps221;go_upto_region 1 with fail
 refine rgD (fun w'=>w'.cell? ⟨B,0,none⟩=some (.slice (some ⟨g,0,none⟩) n c)/\AJ w' g (i*22) 22=some x.cells/\AJ w' g (j*22) 22=some y.cells) (xT.out _ hbw.drew) fun _=>?_
 iterate 8 (refine tkA ?_;go_frame)
 refine rd1 8 fun K hK=>?_
 go_simp;refine(HL.out _ hbw.drew).mono ?_;rintro en w2 ⟨rfl,hb2⟩;have xB:=hbw.drew.trans (hb2.mono hbw.size);go_wp2_with fail
 refine hK.out _ _ (xT.out _ xB) (fun _=>?_);clear hK K;try go_frame
 refine tkD 5 9 ?_;go_frame;refine dnD ?_;go_wp2;go_ret;exact⟨rfl,xB⟩
end
section
open Go.RowKit
structure Oc where
 slot:Int
 round:Int
 choice:Int
 value:Nm
 deriving DecidableEq
abbrev Oc.cells(o:Oc):Array Value:=#[I o.slot,I o.round,I o.choice,B o.value.b0,B o.value.b1,B o.value.b2,B o.value.b3,B o.value.b4,B o.value.b5,B o.value.b6,B o.value.b7]
abbrev Oc.val(o:Oc):Value:=.agg o.cells
abbrev Oc.zero:Oc:=⟨0,0,0,Nm.zero⟩
abbrev occ(o:Oc):List Value:=o.cells.toList
theorem Ix(l:List Oc):∀o∈l,(occ o).length=11:=fun _ _=>rfl
theorem NA{u:Value}(o:Oc)(h:u∈o.cells.toList):u.oneCell'=true:=by
 simp at h;rcases h with rfl|rfl|rfl|rfl|rfl|rfl|rfl|rfl|rfl|rfl|rfl <;> rfl
instance:Inhabited Oc:=⟨Oc.zero⟩
theorem RH:(prog.info? 142).map (fun i=>(i.zero,i.size,i.bytes))=some (some (.agg Oc.zero.cells),11,32):=by kernel_rfl
theorem JR(p:Value):Instr.loadAt 142 p=CQ 142 p:=rfl
theorem MQ(b o:Nat)(w:World):(CQ 142 (.pointer (some ⟨b,o,none⟩))).run prog w=DC 142 b o w (AJ w b o 11):=CX _ 11 b o w _ underlying142 rfl (by kernel_rfl)
theorem Rd.ocRow{w:World}{B' b o:Nat}{l:List Oc}{k:Nat}{v:Oc}(h:Rd w B' (some ⟨b,o,none⟩) (l.flatMap occ))(hk:l[k]? =some v):AJ w b (o+k*11) 11=some v.cells:=by
 have yF:=(AE.1 hk).1;rcases h with h|⟨b',o',e,hb,hc⟩
 ·have:=AY occ 11 l (Ix l);rw[h]at this;simp at this;omega
 ·injection e with e
  injection e with e1 e2
  subst e1;subst e2;refine Bq (fun j u hu=>?_) rfl;have hj:j<11:=by
   have:=(AE.1 hu).1;simpa using this
  rw[Nat.add_assoc];refine hc _ u ?_;rw[B4 occ 11 l (Ix l) k j v hk hj,<-hu]
theorem Oc.row_value{w:World}{g t:Nat}(v:Oc)(h:Blk w g t v.cells):AJ w g 3 8=some v.value.cells:=
 Blk.part h 3 v.value.cells (fun j u hu=>by
  have hj:j<8:=(Aa.1 hu).1;rcases(by omega:j=0∨j=1∨j=2∨j=3∨j=4∨j=5∨j=6∨j=7)with rfl|rfl|rfl|rfl|rfl|rfl|rfl|rfl <;> exact hu)
theorem ZC(a b:Oc)(w:World):(Op.equal 142 a.val b.val).run prog w= .ok (decide (a=b)) w:=by
 show(Op.equalIn 10000 142 a.val b.val).run prog w=_;have u3:=underlying3;have a3:=isAgg3;have z3:=sizeOf3;have a5:=isAgg24;have z5:=sizeOf24;have hS:prog.underlying 142=some (.struct (prog.fieldsOf 142)):=by kernel_rfl
 rw[show(10000:Nat)=9999+1 from rfl,run_equalIn_agg w 9999 142 _ _ hS (by kernel_rfl)];have e6:=fun w=>ED a.value b.value w 9997
 simp only[Program.fieldsOf,underlying142];go_simp;rw[Ea]
 iterate 2 rw[EZ w rfl]
 refine EZ w ?_;cases a;cases b;simp
theorem LE(b:Bool)(d:Nat)(k:Nm)(w:World):(Instr.checkKey b (d+2) 24 k.val).run prog w= .ok () w:=by
 have a3:=isAgg5;have z3:=sizeOf5;have hi:=fun n w=>KM b d n w
 rw[Instr.checkKey];simp only[Sem.run_bind,run_underlying underlying24,Result.andThen_ok];simp only[Std.Legacy.Range.forIn_eq_forIn_range',Std.Legacy.Range.size,Nat.sub_zero,Nat.add_sub_cancel,Nat.div_one,List.range'_succ,List.range'_zero,List.forIn_cons,List.forIn_nil];go_simp
theorem Wa(b:Bool)(k:Oc)(w:World):(Instr.checkKey b 10000 142 k.val).run prog w= .ok () w:=by
 have a3:=isAgg3;have z3:=sizeOf3;have hi:=fun n w=>Ga b 9998 n w
 have a5:=isAgg24;have z5:=sizeOf24;have e6:=fun w=>LE b 9997 k.value w
 rw[Instr.checkKey];simp only[Sem.run_bind,run_underlying underlying142,Result.andThen_ok];go_simp
theorem Ws:Es prog 142 Oc.val where
 desc:=⟨_,underlying142,fun _ _=>rfl⟩
 check:=Wa
 eq:=ZC
 bits k:=GE 9999 _ (by intro v hv;simp at hv;rcases hv with rfl|rfl|rfl|rfl|rfl|rfl|rfl|rfl|rfl|rfl|rfl <;> simp[Instr.sameBits])
attribute [local go_sem ↓] Go.wp_at_zero Go.wp_at_succ Aj Ao Ap Aq JR
attribute [local go_sem] Ax BB BC BD MQ AK AR AN
def Of(a b:Oc):Bool:=if a.round≠b.round then decide (a.round<b.round)else if a.choice≠b.choice then decide (a.choice<b.choice)else Dm a.value b.value
theorem QC(a b:Oc)(w:World):Calls prog 118 #[a.val,b.val] w (Ac w (Of a b)):=by
 have hA:Blk ((w.alloc (Obj.cells a.cells 142)).alloc (Obj.cells b.cells 142)) w.heap.size 142 a.cells:=(Blk.new w _ _).alloc _;have hB:Blk ((w.alloc (Obj.cells a.cells 142)).alloc (Obj.cells b.cells 142)) (w.heap.size+1) 142 b.cells:=by
  have:=Blk.new (w.alloc (Obj.cells a.cells 142)) 142 b.cells;simpa using this
 obtain⟨W,hW⟩:=ZH ((w.alloc (Obj.cells a.cells 142)).alloc (Obj.cells b.cells 142));have hbW:ZN w W:=by rw[hW];exact((AC _ _).alloc (AB _) _).alloc (by simp) _
 rw[<-hW]at hA hB;have x0:=a.row_value hA;have y0:=b.row_value hB;have x1:W.cell? ⟨w.heap.size,1,none⟩=some (I a.round):=hA.cell 1;have x2:W.cell? ⟨w.heap.size,2,none⟩=some (I a.choice):=hA.cell 2;have y1:W.cell? ⟨w.heap.size+1,1,none⟩=some (I b.round):=hB.cell 1;have y2:W.cell? ⟨w.heap.size+1,2,none⟩=some (I b.choice):=hB.cell 2;have HW:=AA hW;obtain⟨r,hr⟩:=ZH (Of a b);rw[<-hr];have HL:=AA (fun V=>Fb a.value b.value V);clear hA hB hW;by_cases h1:a.round=b.round
 ·by_cases h2:a.choice=b.choice
  ·have hr':r=Dm a.value b.value:=by rw[hr];unfold Of;rw[if_neg (fun h=>h h1),if_neg (fun h=>h h2)]
   have n1:(a.round !=b.round)=false:=by rw[h1];exact bne_self_eq_false _
   have n2:(a.choice !=b.choice)=false:=by rw[h2];exact bne_self_eq_false _
   rw[<-hr']at HL;clear hr hr' h1 h2;go_enter func118,ntmps118;go_upto_region 1 with fail
   simp only[<-HW.out];go_wp2_with fail
   refine(HL.out _).mono ?_;rintro en w2 ⟨rfl,hb2⟩;go_wp2;go_ret;exact⟨rfl,hbW.trans (hb2.mono hbW.size)⟩
  ·have hr':r=decide (a.choice<b.choice):=by rw[hr];unfold Of;rw[if_neg (fun h=>h h1),if_pos h2]
   have n1:(a.round !=b.round)=false:=by rw[h1];exact bne_self_eq_false _
   have n2:(a.choice !=b.choice)=true:=by simpa using h2
   have HR:=AA hr';clear hr hr' h1 h2;go_enter func118,ntmps118;go_upto_region 1 with fail
   simp only[<-HW.out];go_wp2;go_ret;exact⟨by rw[HR.out];rfl,hbW⟩
 ·have hr':r=decide (a.round<b.round):=by rw[hr];unfold Of;rw[if_pos h1]
  have n1:(a.round !=b.round)=true:=by simpa using h1
  have HR:=AA hr';clear hr hr' h1;go_enter func118,ntmps118;go_upto_region 1 with fail
  simp only[<-HW.out];go_wp2;go_ret;exact⟨by rw[HR.out];rfl,hbW⟩
structure Vl where
 choice:Int
 name:Nm
 deriving DecidableEq
abbrev Vl.cells(o:Vl):Array Value:=#[I o.choice,B o.name.b0,B o.name.b1,B o.name.b2,B o.name.b3,B o.name.b4,B o.name.b5,B o.name.b6,B o.name.b7]
abbrev Vl.val(o:Vl):Value:=.agg o.cells
abbrev Vl.zero:Vl:=⟨0,Nm.zero⟩
abbrev Cr:Array Value:=#[.int .i64 0,.int .u8 0,.int .u8 0,.int .u8 0,.int .u8 0,.int .u8 0,.int .u8 0,.int .u8 0,.int .u8 0]
theorem Ce:(prog.info? 258).map (·.size)=some 9:=by kernel_rfl
abbrev vlc(o:Vl):List Value:=o.cells.toList
theorem Fu(l:List Vl):∀o∈l,(vlc o).length=9:=fun _ _=>rfl
theorem FI{u:Value}(o:Vl)(h:u∈o.cells.toList):u.oneCell'=true:=by
 simp at h;rcases h with rfl|rfl|rfl|rfl|rfl|rfl|rfl|rfl|rfl <;> rfl
def GD(v:Vt):Vl:=⟨v.choice,v.value⟩
theorem Wb:(prog.info? 258).map (fun i=>(i.zero,i.size,i.bytes))=some (some (.agg Vl.zero.cells),9,16):=by kernel_rfl
theorem Dv(p:Value):Instr.loadAt 258 p=CQ 258 p:=rfl
theorem Fd(b o:Nat)(w:World):(CQ 258 (.pointer (some ⟨b,o,none⟩))).run prog w=DC 258 b o w (AJ w b o 9):=CX _ 9 b o w _ underlying258 rfl (by kernel_rfl)
theorem Rd.vlRow{w:World}{B' b o:Nat}{l:List Vl}{k:Nat}{v:Vl}(h:Rd w B' (some ⟨b,o,none⟩) (l.flatMap vlc))(hk:l[k]? =some v):AJ w b (o+k*9) 9=some v.cells:=by
 have yF:=(AE.1 hk).1;rcases h with h|⟨b',o',e,hb,hc⟩
 ·have:=AY vlc 9 l (Fu l);rw[h]at this;simp at this;omega
 ·injection e with e
  injection e with e1 e2
  subst e1;subst e2;refine Bq (fun j u hu=>?_) rfl;have hj:j<9:=by
   have:=(AE.1 hu).1;simpa using this
  rw[Nat.add_assoc];refine hc _ u ?_;rw[B4 vlc 9 l (Fu l) k j v hk hj,<-hu]
theorem Vl.row_name{w:World}{g t:Nat}(v:Vl)(h:Blk w g t v.cells):AJ w g 1 8=some v.name.cells:=
 Blk.part h 1 v.name.cells (fun j u hu=>by
  have hj:j<8:=(Aa.1 hu).1;rcases(by omega:j=0∨j=1∨j=2∨j=3∨j=4∨j=5∨j=6∨j=7)with rfl|rfl|rfl|rfl|rfl|rfl|rfl|rfl <;> exact hu)
theorem Xy(a b:Vl)(w:World):(Op.equalIn 10000 258 a.val b.val).run prog w= .ok (decide (a=b)) w:=by
 have u3:=underlying3;have a3:=isAgg3;have z3:=sizeOf3;have a5:=isAgg24;have z5:=sizeOf24;have hS:prog.underlying 258=some (.struct (prog.fieldsOf 258)):=by kernel_rfl
 rw[show(10000:Nat)=9999+1 from rfl,run_equalIn_agg w 9999 258 _ _ hS (by kernel_rfl)];have e6:=fun w=>ED a.name b.name w 9997
 simp only[Program.fieldsOf,underlying258];go_simp;rw[Ea];refine EZ w ?_;cases a;cases b;simp
theorem Wc(b:Bool)(k:Vl)(w:World):(Instr.checkKey b 10000 258 k.val).run prog w= .ok () w:=by
 have a3:=isAgg3;have z3:=sizeOf3;have hi:=fun n w=>Ga b 9998 n w
 have a5:=isAgg24;have z5:=sizeOf24;have e6:=fun w=>LE b 9997 k.name w
 rw[Instr.checkKey];simp only[Sem.run_bind,run_underlying underlying258,Result.andThen_ok];go_simp
theorem Yt:Es prog 258 Vl.val where
 desc:=⟨_,underlying258,fun _ _=>rfl⟩
 check:=Wc
 eq a b w:=Xy a b w
 bits k:=GE 9999 _ (by intro v hv;simp at hv;rcases hv with rfl|rfl|rfl|rfl|rfl|rfl|rfl|rfl|rfl <;> simp[Instr.sameBits])
attribute [local go_sem ↓] Go.wp_at_zero Go.wp_at_succ Aj Ao Ap Aq Dv
attribute [local go_sem] Ax BB BC BD Fd AK AR AN
theorem GQ{o:Oper}{a:Act}(c:Int)(v:Nm)(x0 x1:Operand)(ho:o.op= .build 258 #[(0,x0),(1,x1)])(h0:a.eval x0=I c)(h1:a.eval x1= .agg v.cells)(w:World):(execOp a.eval o).run prog w= .ok (.value (Vl.mk c v).val) w:=by
 unfold execOp;rw[ho];simp only[List.map_toArray,List.map_cons,List.map_nil,h0,h1];go_simp
theorem LG(v:Vt)(w:World):Calls prog 213 #[v.val] w fun e w'=>e= .returned (GD v).val/\ZN w w':=by
 obtain⟨W1,hW1⟩:=ZH (w.alloc (Obj.cells v.cells 46));have hb1:ZN w W1:=by rw[hW1];exact(AC _ _).alloc (AB _) _
 have hB1:Blk W1 w.heap.size 46 v.cells:=by rw[hW1];exact Blk.new _ _ _
 obtain⟨q,hq⟩:=ZH w.heap.size;have hs1:W1.heap.size=w.heap.size+1:=by rw[hW1];simp
 obtain⟨z,hzz⟩:=ZH (w.heap.size+1);obtain⟨W2,hW2⟩:=ZH (W1.alloc (Obj.cells Cr 258));have hb2:ZN w W2:=by rw[hW2];exact hb1.alloc hb1.size _
 have hB2:Blk W2 q 46 v.cells:=by rw[hW2,hq];exact hB1.alloc _
 have x0:W2.cell? ⟨q,3,none⟩=some (I v.choice):=hB2.cell 3;have x1:=v.row_value hB2;have hz:Blk W2 z 258 Cr:=by rw[hW2,hzz,<-hs1];exact Blk.new _ _ _
 have hzw:w.heap.size<=z:=by omega
 have HW1:=AA hW1;have HW2:=AA hW2;have HZ:=AA hzz;have HQ:=AA hq;have HB2:=AA hz;clear hW1 hW2 hB1 hB2 hzz hq hz hs1;go_enter func213,ntmps213;go_upto_region 1 with fail
 simp only[<-HW1.out,<-HW2.out,<-HZ.out];simp only[<-HQ.out];go_wp2_with (first
  |(refine Great.wpList_readTo rfl (some 7) rfl (GD v).val (GQ v.choice v.value (.tmp 4) (.tmp 6) rfl rfl rfl _) ?_)
  |(refine AI rfl 258 (.tmp 2) (.tmp 7) rfl z (GD v).cells rfl rfl 258 Cr HB2.out rfl Ce (fun u hu=>FI _ hu) ?_;intro w5 hR5 hg5 yp))
 refine bodyPost_ret (results_cell_row (g:=z) (cs:=(GD v).cells) rfl _ _ _ _ _ rfl hR5 underlying258 rfl Ce) rfl ⟨rfl,?_⟩;exact hb2.grown hg5 hb2.size (ZJ hzw)
def II(a b:Vl):Bool:=if a.choice≠b.choice then decide (a.choice<b.choice)else Dm a.name b.name
theorem QD(a b:Vl)(w:World):Calls prog 252 #[a.val,b.val] w (Ac w (II a b)):=by
 have hA:Blk ((w.alloc (Obj.cells a.cells 258)).alloc (Obj.cells b.cells 258)) w.heap.size 258 a.cells:=(Blk.new w _ _).alloc _;have hB:Blk ((w.alloc (Obj.cells a.cells 258)).alloc (Obj.cells b.cells 258)) (w.heap.size+1) 258 b.cells:=by
  have:=Blk.new (w.alloc (Obj.cells a.cells 258)) 258 b.cells;simpa using this
 obtain⟨W,hW⟩:=ZH ((w.alloc (Obj.cells a.cells 258)).alloc (Obj.cells b.cells 258));have hbW:ZN w W:=by rw[hW];exact((AC _ _).alloc (AB _) _).alloc (by simp) _
 rw[<-hW]at hA hB;have x0:=a.row_name hA;have y0:=b.row_name hB;have x1:W.cell? ⟨w.heap.size,0,none⟩=some (I a.choice):=hA.cell 0;have y1:W.cell? ⟨w.heap.size+1,0,none⟩=some (I b.choice):=hB.cell 0;have HW:=AA hW;obtain⟨r,hr⟩:=ZH (II a b);rw[<-hr];have HL:=AA (fun V=>Fb a.name b.name V);clear hA hB hW;by_cases h1:a.choice=b.choice
 ·have hr':r=Dm a.name b.name:=by rw[hr];unfold II;rw[if_neg (fun h=>h h1)]
  have n1:(a.choice !=b.choice)=false:=by rw[h1];exact bne_self_eq_false _
  rw[<-hr']at HL;clear hr hr' h1;go_enter func252,ntmps252;go_upto_region 1 with fail
  simp only[<-HW.out];go_wp2_with (go_at_call 158;refine(HL.out _).mono ?_;rintro en w2 ⟨rfl,hb2⟩)
  go_ret;exact⟨rfl,hbW.trans (hb2.mono hbW.size)⟩
 ·have hr':r=decide (a.choice<b.choice):=by rw[hr];unfold II;rw[if_pos h1]
  have n1:(a.choice !=b.choice)=true:=by simpa using h1
  have hd:=hr'.symm;clear hr hr' h1;go_enter func252,ntmps252;go_upto_region 1 with fail
  simp only[<-HW.out];go_wp2;go_ret;exact⟨rfl,hbW⟩
theorem NB(a b:Nat)(ha:a<9223372036854775808)(hb:b<9223372036854775808):bits .or .i64 (a:Int) (b:Int)=((a|||b:Nat):Int):=by
 have hx:a|||b<2^63:=Nat.or_lt_two_pow (by omega) (by omega)
 show IntKind.i64.wrap ((BitVec.ofInt 64 (a:Int)|||BitVec.ofInt 64 (b:Int)).toNat:Int)=_;rw[BitVec.toNat_or,BitVec.ofInt_natCast,BitVec.ofInt_natCast,BitVec.toNat_ofNat,BitVec.toNat_ofNat,Nat.mod_eq_of_lt (by omega),Nat.mod_eq_of_lt (by omega),IntKind.wrap_i64];omega
theorem Gq(m s:Nat)(hm:m<1024)(hs:s<=9):m|||2^s<1024:=
 Nat.or_lt_two_pow (n:=10) hm (Nat.pow_lt_pow_right (by omega) (by omega))
theorem RI(s:Nat)(hs:s<=9)(w:World):(Op.shift .shl .i64 1 .i64 (s:Int)).run prog w= .ok (.int .i64 ((2^s:Nat):Int)) w:=by
 rcases(by omega:s=0∨s=1∨s=2∨s=3∨s=4∨s=5∨s=6∨s=7∨s=8∨s=9)with rfl|rfl|rfl|rfl|rfl|rfl|rfl|rfl|rfl|rfl <;> kernel_rfl
theorem QE(m s:Nat)(hm:m<1024)(hs:s<=9):Value.int .i64 (bits .or .i64 (m:Int) (wrap64 (2^s)))= .int .i64 ((m|||2^s:Nat):Int):=by
 have h2:2^s<1024:=Nat.pow_lt_pow_right (n:=10) (by omega) (by omega);have e:wrap64 ((2:Int)^s)=((2^s:Nat):Int):=by
  rw[IntWalk.wrap64_in _ ⟨?_,?_⟩]
  ·simp
  ·have:(0:Int)<=(2:Int)^s:=Int.le_of_lt (Int.pow_pos (by omega));omega
  ·have:((2^s:Nat):Int)=(2:Int)^s:=by simp
   omega
 rw[e,NB m (2^s) (by omega) (by omega)]
def Aw(x:Nat):Nat->Nat
 |0=>0
 |n+1=>Aw x n+(x/2^n)%2
def g1F(x:Nat):Nat:=(x/2&&& 6148914691236517205)+(x&&& 6148914691236517205)
def g2F(x:Nat):Nat:=(x/4&&& 3689348814741910323)+(x&&& 3689348814741910323)
def g3F(x:Nat):Nat:=(x/16+x)&&& 1085102592571150095
theorem Fv:∀x:Fin 1024,IntKind.u64.wrap (bits .and .u64 ((x.val:Int)/2) 6148914691236517205+bits .and .u64 (x.val:Int) 6148914691236517205)=((g1F x.val:Nat):Int)/\g1F x.val<1024:=by decide+kernel
theorem ZD:∀x:Fin 1024,IntKind.u64.wrap (bits .and .u64 ((x.val:Int)/4) 3689348814741910323+bits .and .u64 (x.val:Int) 3689348814741910323)=((g2F x.val:Nat):Int)/\g2F x.val<1024:=by decide+kernel
theorem ZE:∀x:Fin 1024,bits .and .u64 (IntKind.u64.wrap ((x.val:Int)/16+(x.val:Int))) 1085102592571150095=((g3F x.val:Nat):Int):=by decide+kernel
theorem ZF:∀x:Fin 1024,IntKind.u64.wrap ((x.val:Int)+(x.val:Int)/256)=((x.val+x.val/256:Nat):Int):=by decide+kernel
theorem ZG:∀x:Fin 1024,IntKind.u64.wrap ((x.val:Int)+(x.val:Int)/65536)=(x.val:Int)/\IntKind.u64.wrap ((x.val:Int)+(x.val:Int)/4294967296)=(x.val:Int)/\IntKind.i64.wrap (x.val:Int)=(x.val:Int)/\bits .and .i64 (x.val:Int) 127=((x.val%128:Nat):Int):=by decide+kernel
theorem QF:∀x:Fin 1024,(g3F (g2F (g1F x.val))+g3F (g2F (g1F x.val))/256)%128=Aw x.val 10/\g3F (g2F (g1F x.val))<1024/\g3F (g2F (g1F x.val))+g3F (g2F (g1F x.val))/256<1024:=by decide+kernel
theorem QG(x:Nat)(w:World)(hx:x<1024):Calls prog 72 #[.int .u64 (x:Int)] w fun e w'=>e= .returned (.int .i64 ((Aw x 10:Nat):Int))/\w'=w:=by
 obtain⟨e1,l1⟩:=Fv ⟨x,hx⟩;obtain⟨e2,l2⟩:=ZD ⟨_,l1⟩;have e3:=ZE ⟨_,l2⟩;obtain⟨e9,l3,l4⟩:=QF ⟨x,hx⟩;have e4:=ZF ⟨_,l3⟩;obtain⟨e5,e6,e7,e8⟩:=ZG ⟨_,l4⟩;simp only at e1 e2 e3 e4 e5 e6 e7 e8 e9;rw[e9]at e8;generalize g3F (g2F (g1F x))+g3F (g2F (g1F x))/256=x4 at*;generalize g3F (g2F (g1F x))=x3 at*;generalize g2F (g1F x)=x2 at*;generalize g1F x=x1 at*;generalize Aw x 10=r at*;clear l1 l2 l3 l4 e9;go_enter func72,ntmps72;go_wp2;go_ret;exact⟨rfl,rfl⟩
theorem Jr(x:Nat)(hx:x<1024):IntKind.u64.wrap (x:Int)=(x:Int):=by rw[IntKind.wrap_u64];omega
theorem Ul(x:Nat)(w:World)(hx:x<1024):Calls prog 38 #[.int .u64 (x:Int)] w fun e w'=>e= .returned (.int .i64 ((Aw x 10:Nat):Int))/\w'=w:=by
 have H:=AA (fun W=>QG x W hx);have hw:=Jr x hx;generalize Aw x 10=r at*;go_enter func38,ntmps38;go_wp2_with (go_at_call 72;refine(H.out _).mono ?_;rintro en w2 ⟨rfl,hw2⟩;replace hw2:=hw2.symm;subst hw2)
 go_ret;exact⟨rfl,rfl⟩
theorem Fw(x:Nat):∀i,Aw x i<=i
 |0=>AB _
 |i+1=>by have:=Fw x i;show Aw x i+(x/2^i)%2<=i+1;omega
end

abbrev VS:=Vt×List UInt8
abbrev Sg.vs(s:Sg):VS:=(s.vote,s.sig)
def Cx:List UInt8->List UInt8->Bool
 |[],_=>true
 |_::_,[]=>false
 |x::a,y::b=>if x=y then Cx a b else decide (x<y)
def Iy:List VS->Bool
 |x::y::l=>BU x.1 y.1&&Iy (y::l)
 |_=>true
def Cu:List VS->List VS->List VS
 |[],b=>b
 |a,[]=>a
 |x::a,y::b=>
  if BU x.1 y.1=true then x::Cu a (y::b)
  else if BU y.1 x.1=true then y::Cu (x::a) b
  else if Cx x.2 y.2=true then Cu (x::a) b
  else Cu a (y::b)
termination_by a b=>a.length+b.length
theorem LH(a:List VS):Cu a []=a:=by cases a <;> simp[Cu]
theorem LI(b:List VS):Cu [] b=b:=by simp[Cu]
theorem IJ:∀(n:Nat) (a b:List VS),a.length+b.length<=n->(Cu a b).length<=a.length+b.length
 |_,[],b,_=>by simp[Cu]
 |_,x::a,[],_=>by simp[Cu]
 |0,x::a,y::b,h=>by simp at h
 |n+1,x::a,y::b,h=>by
  have h1:=IJ n a (y::b) (by simp at h ⊢;omega);have h2:=IJ n (x::a) b (by simp at h ⊢;omega);simp only[Ah]at h1 h2 ⊢;rw[Cu];split
  ·simp only[Ah];omega
  ·split
   ·simp only[Ah];omega
   ·split <;> omega
def Fx:Nat->List VS->List VS
 |0,l=>l
 |k+1,l=>if Iy l=true then l else Cu (Fx k (l.take (l.length/2))) (Fx k (l.drop (l.length/2)))
theorem LJ:∀(k:Nat) (l:List VS),(Fx k l).length<=l.length
 |0,_=>AB _
 |k+1,l=>by
  rw[Fx];split
  ·exact AB _
  ·have h1:=LJ k (l.take (l.length/2));have h2:=LJ k (l.drop (l.length/2));have h3:=IJ _ (Fx k (l.take (l.length/2))) (Fx k (l.drop (l.length/2))) (AB _);rw[AZ]at h1;rw[List.length_drop]at h2;omega
theorem El(l:List VS)(h:l.length<=1):Iy l=true:=by
 match l,h with
 |[],_=>rfl
 |[_],_=>rfl
theorem Gr:∀(k j:Nat) (l:List VS),l.length<=k->l.length<=j->Fx k l=Fx j l
 |0,0,_,_,_=>rfl
 |0,j+1,l,h,_=>by rw[Fx,Fx,if_pos (El l (by omega))]
 |k+1,0,l,_,h=>by rw[Fx,Fx,if_pos (El l (by omega))]
 |k+1,j+1,l,h,h'=>by
  rw[Fx,Fx];by_cases ha:Iy l=true
  ·rw[if_pos ha,if_pos ha]
  ·have h2:2<=l.length:=by
    rcases Nat.lt_or_ge l.length 2 with h3|h3
    ·exact absurd (El l (by omega)) ha
    ·exact h3
   rw[if_neg ha,if_neg ha,Gr k j (l.take (l.length/2)) (by rw[AZ];omega) (by rw[AZ];omega),
    Gr k j (l.drop (l.length/2)) (by rw[List.length_drop];omega) (by rw[List.length_drop];omega)]
def B8(l:List VS):List VS:=Fx l.length l
theorem GR{l:List VS}(h:Iy l=true):B8 l=l:=by
 unfold B8;cases hl:l.length with
 |zero=>rfl
 |succ k=>rw[Fx,if_pos h]
theorem QH{l:List VS}(h:¬Iy l=true):B8 l=Cu (B8 (l.take (l.length/2))) (B8 (l.drop (l.length/2))):=by
 have h2:2<=l.length:=by
  rcases Nat.lt_or_ge l.length 2 with h3|h3
  ·exact absurd (El l (by omega)) h
  ·exact h3
 unfold B8;obtain⟨k,hk⟩:∃k,l.length=k+1:=⟨l.length-1,by omega⟩;rw[show Fx l.length l=Fx (k+1) l from by rw[hk],Fx,if_neg h,
  Gr k (l.take (l.length/2)).length (l.take (l.length/2)) (by rw[AZ];omega) (AB _),
  Gr k (l.drop (l.length/2)).length (l.drop (l.length/2)) (by rw[List.length_drop];omega) (AB _)]
theorem D9(l:List VS):(B8 l).length<=l.length:=LJ _ l
theorem LK:∀(l:List VS),Iy l=true↔∀i x y,l[i]? =some x->l[i+1]? =some y->BU x.1 y.1=true
 |[]=>by simp[Iy]
 |[a]=>by simp[Iy]
 |a::b::l=>by
  rw[Iy,Bool.and_eq_true,LK (b::l)];constructor
  ·rintro⟨h1,h2⟩ i x y hx hy;cases i with
   |zero=>
    simp at hx hy;subst hx;subst hy;exact h1
   |succ i=>exact h2 i x y (by simpa using hx) (by simpa using hy)
  ·intro h;exact⟨h 0 a b rfl rfl,fun i x y hx hy=>h (i+1) x y (by simpa using hx) (by simpa using hy)⟩
section
open Go.RowKit
theorem Wd{w w':World}{b e s n b' e' s' n':Nat}{v v':Value}{xs xs':List Value}(h:w.ownsRow b e s v n xs)(h':w.ownsRow b' e' s' v' n' xs')(hne:e≠e')(hg:w.grownBy w' v'.ownBlock):w'.ownsRow b e s v n xs:=by
 refine⟨h.1,?_⟩;rcases h.2 with h0|⟨g,cap,cur,hv,hgb,hh,r⟩
 ·exact .inl h0
 ·exact .inr ⟨g,cap,cur,hv,hgb,(hg.block g (lt_of_block hh) (CJ h' hh (Ne.symm hne))).trans hh,r⟩
theorem CO.more{w:World}{B' B'':Nat}{l:List Sg}(h:CO w B' l)(hb:B'<=B''):CO w B'' l:=fun s hs=>⟨(h s hs).1.more hb,(h s hs).2⟩
def Bo(w:World)(b:Nat)(s:Sg):Prop:=s.vote.ok/\w.ownsRow b 5 1 (.slice s.A s.sig.length s.cap) s.sig.length (s.sig.map B)/\s.sig.length<=140737488351232
theorem Bo.ok{w:World}{b:Nat}{s:Sg}(h:Bo w b s):D3 w w.heap.size s/\GA s:=by
 refine⟨⟨h.1,Rd.of_own h.2.1,h.2.2⟩,?_⟩;rcases h.2.1.2 with⟨hv,hn⟩|⟨g,cap,cur,hv,_,_,h1,h2,_⟩
 ·injection hv with _ _ hc
  refine⟨by omega,by unfold maxLen;omega⟩
 ·injection hv with _ _ hc
  subst hc;exact⟨h1,h2⟩
theorem Bo.alloc{w:World}{b:Nat}{s:Sg}(h:Bo w b s)(o:Obj):Bo (w.alloc o) b s:=⟨h.1,h.2.1.alloc o,h.2.2⟩
def KI(w:World)(l:List VS)(e:Ending)(w':World):Prop:=
 ∃(L:List Sg) (v:Value),e= .returned v/\ZN w w'/\w'.ownsRow w.heap.size 62 23 v L.length (L.flatMap sgc)/\CO w' w'.heap.size L/\L.map Sg.vs=B8 l
def Yu(w:World)(L:List Sg)(v:Value):Prop:=
 ∃A c,v= .slice A L.length c/\Rd w w.heap.size A (L.flatMap sgc)/\L.length<=c/\c<=maxLen/\CO w w.heap.size L
theorem JS{w:World}{b n:Nat}{v:Value}{L:List Sg}(h:w.ownsRow b 62 23 v n (L.flatMap sgc))(hn:n=L.length)(hs:CO w w.heap.size L):Yu w L v:=by
 subst hn;rcases h.2 with⟨hv,h0⟩|⟨g,cap,cur,hv,_,_,h1,h2,_⟩
 ·subst hv;have hL:L=[]:=AV h0;subst hL;exact⟨none,0,rfl,Rd.nil,AB _,by unfold maxLen;omega,hs⟩
 ·subst hv;exact⟨_,cap,rfl,Rd.of_own h,h1,h2,hs⟩
theorem Dw{P:Program}{o:Oper}{a:Act}{w:World}{K:Act->World->Prop}{Q:Exit->Act->World->Prop}(d:Option Tmp)(hd:o.dst=d)(t e:TypeId)(x:Operand)(ho:o.op= .buildSlice t 1 #[(0,x)])(cs:Array Value)(hx:a.eval x= .agg cs)(hu:P.underlying t=some (.slice e))(hi:(P.info? e).map (fun i=>(i.zero.isSome,i.size))=some (true,cs.size))(yF:0<cs.size)(hsm:cs.size<=1000)(h:K (a.put d (.slice (some ⟨w.heap.size,0,none⟩) 1 1)) (w.alloc (.cells cs e))):o.wp P a w K Q:=by
 subst hd;cases hie:P.info? e with
 |none=>simp[hie]at hi
 |some ie=>
  simp only[hie,Option.map_some,Option.some.injEq,Prod.mk.injEq]at hi;obtain⟨hz,hsz⟩:=hi;obtain⟨z,hzz⟩:=Option.isSome_iff_exists.1 hz;refine wp_buildSlice t e 1 #[(0,x)] ho cs ie z hu hie hzz (by rw[hsz];omega) (by rw[hsz];omega) ?_ h;have hf:=Great.fill_whole (s:=ie.size) (by rw[hsz];exact yF) [Value.agg cs] ((Array.range (1*ie.size)).map (z.cells[· %z.cells.size]!)) (by intro v hv;rw[AU.1 hv,hsz];rfl) (by simp);have ev:(#[(0,x)].map fun((i,x):Nat×Operand)=>(i,a.eval x)).toList=([Value.agg cs].zipIdx 0).map fun x=>(x.2,x.1):=by simp[hx]
  rw[ev,hf];simp[Value.cells]
theorem CO.sub{w:World}{B':Nat}{l l':List Sg}(h:CO w B' l)(hs:∀s∈l',s∈l):CO w B' l':=fun s hx=>h s (hs s hx)
end
section
open Go.RowKit
attribute [local go_sem ↓] Go.wp_at_zero Go.wp_at_succ Aj Ao Ap Aq
attribute [local go_sem] Ax BB BC BD AK AR AN
def BY(s:Nat):List Sg->Option Ev
 |x::y::r=>if x.vote.signer=(s:Int)/\CN x.vote y.vote then some ⟨x,y⟩else BY s (y::r)
 |_=>none
def LL(l:List Sg)(k:Nat):List Ev:=(List.range k).filterMap fun s=>BY s l
theorem LM(l:List Sg)(k:Nat):LL l (k+1)=LL l k++(BY k l).toList:=by
 unfold LL;rw[List.range_succ,List.filterMap_append];congr 1
theorem SU(l:List Sg)(k:Nat):(LL l k).length<=k:=by
 have:=List.length_filterMap_le (fun s=>BY s l) (List.range k);rw[List.length_range]at this;exact this
theorem LN{s:Nat}{e:Ev}:∀{l:List Sg},BY s l=some e->e.a∈l/\e.b∈l
 |[],h=>by cases h
 |[_],h=>by cases h
 |x::y::r,h=>by
  rw[BY]at h;split at h
  ·cases h;simp
  ·obtain⟨h1,h2⟩:=LN h;exact⟨List.mem_cons_of_mem _ h1,List.mem_cons_of_mem _ h2⟩
theorem Js{o:Oper}{a:Act}(x y:Sg)(s t:Operand)(ho:o.op= .build 125 #[(0,s),(1,t)])(hs:a.eval s=x.val)(ht:a.eval t=y.val)(w:World):(execOp a.eval o).run prog w= .ok (.value (Ev.mk x y).val) w:=by
 obtain⟨v,sig,A,c⟩:=x;obtain⟨v',sig',A',c'⟩:=y;unfold Ev.val;rw[QA];unfold Sg.val at hs ht;rw[P9]at hs ht;unfold execOp;rw[ho];simp only[List.map_toArray,List.map_cons,List.map_nil,hs,ht];go_simp
theorem We:(prog.info? 125).map (fun i=>(i.zero,i.size,i.bytes))=some (some (.agg B7),46,176):=by kernel_rfl
end
end Go.Proofs.YtadllffeoibelaaGreat
