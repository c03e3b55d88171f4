/-
  What these parts of the proof come to, functions walked and plain laws: GmAdd. No condition.
-/
import Derived.Test.YtadllffeoibelaaGreatS40
namespace Go.Proofs.YtadllffeoibelaaGreat
set_option maxRecDepth 100000
set_option maxHeartbeats 32000000
set_option linter.all false
section
open Go.RowKit
attribute [local go_sem ↓] Go.wp_at_zero Go.wp_at_succ An Au Av Aw
attribute [local go_sem] BD BH BI BJ AN AW AQ
def F7(l:List VS):List Vt:=(CD l).map (·.1)
theorem Cu.okS{Bs:Nat}{w:World}{b:Nat}{P:PrS}(h:Cu Bs w b P):FP w w.heap.size P.L:=fun s hs=>(h.sgs s hs).ok
theorem F8{Bs:Nat}{w:World}{b:Nat}{P:PrS}(h:Cu Bs w b P)(hsm:P.L.length≤1000000):Calls Tryz.prog 44 #[Am b] w (EK w (F7 (P.L.map Sg.vs))):=by
 obtain⟨A,c,hv,hr⟩:=BY h.row;have y0:w.cell? ⟨b,0,none⟩=some (.slice A P.L.length c):=by rw[←hv];exact h.blk.cell 0
 have HV:=AA (Iw A P.L.length c P.L w rfl hr h.okS hsm);obtain⟨n,hn⟩:∃n,n=P.L.length:=⟨_,rfl⟩;rw[←hn]at y0 HV;obtain⟨D,hD⟩:∃D,D=F7 (P.L.map Sg.vs):=⟨_,rfl⟩;have HV':Hid (Calls Tryz.prog 47 #[.slice A n c] w (EK w D)):=by unfold Hid;rw[hD];exact HV.out
 rw[←hD];clear h hv hr hsm hn hD HV;go_enter Tryz.func44,Tryz.ntmps44;go_wp2_with fail
 refine HV'.out.mono ?_;rintro en w2 ⟨v,rfl,hb2,hown⟩;have HOwn:=AA hown;clear hown;go_wp2;go_ret;exact⟨v,rfl,hb2,HOwn.out⟩
abbrev PrS.more(P:PrS)(v:Value)(L:List Sg):PrS:={P with v:=v,L:=L}
def R5(Bs:Nat)(w:World)(b:Nat)(P:PrS)(l:List Sg)(e:Ending)(w':World):Prop:=
 ∃(v:Value) (L:List Sg),e= .returned (.tuple #[])∧Cu Bs w' b (P.more v L)∧L.map Sg.vs=CD ((P.L++l).map Sg.vs)∧w.grownBy w' (some b)
theorem Ki{Bs:Nat}{w:World}{b:Nat}{P:PrS}(h:Cu Bs w b P)(hBs:Bs≤w.heap.size)(A2:Option Addr)(n2 c2:Nat)(l:List Sg)(hn2:l.length=n2)(hr2:Rd w w.heap.size A2 (l.flatMap sgc))(hok2:FP w w.heap.size l)(hsm:P.L.length+n2≤1000000):Calls Tryz.prog 76 #[Am b,.slice A2 n2 c2] w (R5 Bs w b P l):=by
 obtain⟨A,c,hv,hr⟩:=BY h.row;have y0:w.cell? ⟨b,0,none⟩=some (.slice A P.L.length c):=by rw[←hv];exact h.blk.cell 0
 obtain⟨n,hn⟩:∃n,P.L.length=n:=⟨_,rfl⟩;rw[hn]at y0 hsm;have HP:=AA h;have HNn:=AA hn;have HN2:=AA hn2;have HR:=AA hr;have HR2:=AA hr2;have HOk4:Hid (∀V,Below w.heap.size w V→FP V V.heap.size (P.L++l)):=fun V hV s hs=>by
  rcases AP.1 hs with hs|hs
  ·exact((h.below hV).sgs s hs).ok
  ·exact⟨((hok2 s hs).1.below hV).more hV.size,(hok2 s hs).2⟩
 clear h hv hr hn hn2 hr2 hok2;go_enter Tryz.func76,Tryz.ntmps76;go_wp2_with (first
  |(at_builtin;refine Aq rfl (.const (.slice none 0 0)) (.tmp 8) _ rfl w.heap.size 62 (.agg BK) 23 88 Tryz.underlying50 C6 rfl (by decide) (.slice none 0 0) 0 [] rfl ⟨by simp,.inl ⟨rfl,rfl⟩⟩ w.heap.size A n c (P.L.flatMap sgc) rfl (by rw[AX sgc 23 P.L (CM P.L),HNn.out]) HR.out (fun u hu=>by obtain⟨s,_,hs⟩:=List.mem_flatMap.1 hu;exact s.one u hs) (by omega) (by unfold maxLen;omega) (AB _) ?_;intro v3 w3 hown3 hg3 hat3;change w.grownBy w3 none at hg3;have hb3:Below w.heap.size w w3:=(AC _ w).grown hg3 (AB _) (fun k hk=>by cases hk);rw[Nat.zero_add,List.nil_append]at hown3;obtain⟨A3,c3,rfl,hr3⟩:=BY hown3;have HOwn3:=AA hown3;have HR23:Hid (Rd w3 w3.heap.size A2 (l.flatMap sgc)):=(HR2.out.below hb3).more hb3.size;clear hown3 hg3 hat3 hr3)
  |(at_builtin;refine Aq rfl (.tmp 9) (.tmp 10) _ rfl w.heap.size 62 (.agg BK) 23 88 Tryz.underlying50 C6 rfl (by decide) _ n (P.L.flatMap sgc) rfl HOwn3.out w3.heap.size A2 n2 c2 (l.flatMap sgc) rfl (by rw[AX sgc 23 l (CM l),HN2.out]) HR23.out (fun u hu=>by obtain⟨s,_,hs⟩:=List.mem_flatMap.1 hu;exact s.one u hs) (by omega) (by unfold maxLen;omega) hb3.size ?_;intro v4 w4 hown4 hg4 hat4;have hb4:Below w.heap.size w w4:=BL hb3 HOwn3.out hg4;rw[←Ad]at hown4;obtain⟨A4,c4,rfl,hr4⟩:=BY hown4;have HCan:=AA (G8 A4 (n+n2) c4 (P.L++l) w4 (by rw[AI,HNn.out,HN2.out]) hr4 (HOk4.out w4 hb4) hsm);clear hown4 hg4 hat4 hr4)
  |fail)
 have hP4:=HP.out.below hb4;have HP4:=AA hP4;clear hP4 HOwn3 HR23 y0;go_wp2_with fail
 refine HCan.out.mono ?_;rintro en w5 ⟨L,v5,rfl,hb5,hown5,hsg5,hcan⟩;have hbs:Bs≤w4.heap.size:=AF hBs hb4.size;have hP5:=HP4.out.below hb5;have y5:w5.cell? ⟨b,0,none⟩=some P.v:=hP5.blk.cell 0;have y6:w5.frozen? ⟨b,0,none⟩=false:=hP5.blk.frozen 0;obtain⟨A5,c5,rfl⟩:=Ar hown5;have hb05:=hb4.trans (hb5.mono hb4.size);have HOwn5:Hid (w5.ownsRow Bs 62 23 (.slice A5 L.length c5) L.length (L.flatMap sgc)):=BF hown5 hbs;have HSg5:Hid (∀s∈L,Bj w5 Bs s):=fun s hs=>⟨(hsg5 s hs).1,BF (hsg5 s hs).2.1 hbs,(hsg5 s hs).2.2⟩
 have HCn:=AA hcan;have HP5:=AA hP5;clear hown5 hsg5 hcan hP5 hb5 HCan;go_wp2;go_end0;have hg6:w5.grownBy (w5.setCell ⟨b,0,none⟩ (.slice A5 L.length c5)) (some b):=Bi (p:=⟨b,0,none⟩) (Ai w5 b) rfl _;have hB5:=HP5.out.blk;refine⟨_,L,rfl,⟨hB5.put 0 _,BO HOwn5.out hg6 (.blk hB5 (by decide)),fun s hs=>(HSg5.out s hs).off hg6 (.blk hB5 (by decide)),BO HP5.out.dec hg6 (.blk hB5 (by decide))⟩,HCn.out,?_⟩;exact(Bm hb05).trans hg6
end
end Go.Proofs.YtadllffeoibelaaGreat
