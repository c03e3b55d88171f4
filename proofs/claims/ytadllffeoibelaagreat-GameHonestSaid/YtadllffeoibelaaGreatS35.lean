/-
  What these parts of the proof come to, functions walked and plain laws: Low, Vfirst, Fits. No condition.
-/
import Derived.Test.YtadllffeoibelaaGreatS12
import Derived.Test.YtadllffeoibelaaGreatS27
import Derived.Test.YtadllffeoibelaaGreatS34
import Derived.Test.YtadllffeoibelaaGreatS6
import Derived.Test.YtadllffeoibelaaGreatS33
namespace Go.Proofs.YtadllffeoibelaaGreat
set_option maxRecDepth 100000
set_option maxHeartbeats 32000000
set_option linter.all false
section
open Go.RowKit Go.Shelf
attribute [local go_sem] Oper.semAt_some
theorem Lo(s:Nat):∀(d i:Nat),∃t,CH s (i+d)=CH s i++t
 |0,i=>⟨[],by simp⟩
 |d+1,i=>by
  obtain⟨t,ht⟩:=Lo s d i;cases hb:s.testBit (i+d)with
  |true=>exact⟨t++[i+d],by rw[←Nat.add_assoc,GL hb,ht,List.append_assoc]⟩
  |false=>exact⟨t,by rw[←Nat.add_assoc,ER hb,ht]⟩
theorem QW{s i k:Nat}(hi:i≤10)(hk:k≤(CH s i).length):(CH s 10).take k=(CH s i).take k:=by
 obtain⟨t,ht⟩:=Lo s (10-i) i;rw[show i+(10-i)=10 by omega]at ht;rw[ht,List.take_append_of_le_length hk]
abbrev D1(pre:List (Fin 10)):List Nat:=pre.map (·.val)
theorem Ga(pre:List (Fin 10)):(D1 pre).length=pre.length:=AY _
theorem Rq(pre:List (Fin 10)):∀i∈D1 pre,i≤9:=fun i hi=>by
 obtain⟨x,_,rfl⟩:=List.mem_map.1 hi;have:=x.2;omega
theorem QX(n:Nat)(hn:1≤n)(l Bn n₀:Nat)(M:Int)(J Jx:List (Fin 10)→World→Prop)(hY:∀(pre:List (Fin 10)) (x:Fin 10) (W:World),J pre W→pre.length<10→YieldAt Fence.wide (n-1) Tryz.prog l #[.int .i64 (x.val:Int)] W fun e W'=>(e= .returned (.bool true)∧J (pre++[x]) W'∧EH n₀ Bn W W')∨(e= .returned (.bool false)∧Jx (pre++[x]) W'))(W:World)(hB:Boxed W Bn 22 (.int .i64 M))(h0:J [] W):CallsIn Fence.wide n Tryz.prog 128 #[.func (.yield l) #[] #[],.pointer (some ⟨Bn,0,none⟩)] W fun e W'=>(∃v,e= .returned v)∧((∃ys,D1 ys=CH (xOf M) 10∧J ys W')∨(∃pre,(∃i,i≤10∧D1 pre=CH (xOf M) i)∧Jx pre W')):=by
 have HH:=AA (fun i (hi:i<10) W=>Dv M i hi W);refine callsIn_of_wp Tryz.func128 rfl trivial ?_ rfl;simp only[Tryz.ntmps128,List.size_toArray,Af,List.length_nil,Nat.reduceAdd,Nat.reduceSub,Array.replicate_succ,Array.replicate_zero,List.push_toArray,List.append_toArray,List.nil_append,List.cons_append]
 gi_wp2
 gi_loopw [4] (fun iv wr=>∃(i:Nat) (pre:List (Fin 10)),iv= .int .i64 (i:Int)∧i≤10∧D1 pre=CH (xOf M) i∧Boxed wr Bn 22 (.int .i64 M)∧J pre wr) (fun iv _=>10-(intOf iv).toNat)
 case atStart=>exact⟨0,[],rfl,by omega,rfl,hB,h0⟩
 case round=>
  obtain⟨i,pre,rfl,hin,hpre,hbox,hJ⟩:=hrel;have hcell:=hbox.cell;by_cases hi:i<10
  ·have di:decide ((i:Int)<10)=true:=by simp;omega
   have H:=AA (HH.out i hi);cases hb:(xOf M).testBit i with
   |true=>
    rw[hb]at H;have hids:D1 (pre++[⟨i,hi⟩])=CH (xOf M) (i+1):=by rw[GL hb,←hpre];simp[D1]
    have HIds:=AA hids;clear hids;obtain⟨fn,tmps,assign,body,hy,hR⟩:=hY pre ⟨i,hi⟩ wr hJ (by have:=E7 (xOf M) i;rw[←hpre,Ga]at this;omega)
    gi_wp2_with (refine⟨trivial,?_⟩;gi_at_call 19;refine(callsIn_wide.2 (H.out _)).mono ?_;rintro en w2 ⟨rfl,hw2⟩;replace hw2:=hw2.symm;subst hw2)
    refine hR.mono ?_;rintro e W3 (⟨rfl,hJ3,hk3⟩|⟨rfl,hx3⟩)
    ·have hbox3:Boxed W3 Bn 22 (.int .i64 M):=hk3.2.trans hbox
     gi_wp2
     gi_wp2
     go_roundw
     case rel=>exact⟨i+1,_,by go_num,by omega,HIds.out,hbox3,hJ3⟩
     case measure=>simp[intOf];omega
    ·gi_wp2
     refine bodyPost_ret (results_none rfl _ _ _) rfl ?_;exact⟨⟨_,rfl⟩,.inr ⟨_,⟨i+1,by omega,HIds.out⟩,hx3⟩⟩
   |false=>
    rw[hb]at H;have HIds:=AA (hpre.trans (ER hb).symm)
    gi_wp2_with (refine⟨trivial,?_⟩;gi_at_call 19;refine(callsIn_wide.2 (H.out _)).mono ?_;rintro en w2 ⟨rfl,hw2⟩;replace hw2:=hw2.symm;subst hw2)
    refine⟨fun _ h=>(by cases h),?_⟩
    gi_wp2
    go_roundw
    case rel=>exact⟨i+1,pre,by go_num,by omega,HIds.out,hbox,hJ⟩
    case measure=>simp[intOf];omega
  ·have di:decide ((i:Int)<10)=false:=by simp;omega
   have hi10:i=10:=by omega
   subst hi10
   gi_wp2
   go_end0;exact⟨⟨_,rfl⟩,.inl ⟨_,hpre,hJ⟩⟩
theorem Oj(n:Nat)(hn:1≤n)(Bn n₀:Nat)(M:Int)(w:World)(hBn:Boxed w Bn 22 (.int .i64 M)):SeqStopsK Fence.wide n Tryz.prog 128 #[.pointer (some ⟨Bn,0,none⟩)] (fun x:Fin 10=>#[Value.int .i64 (x.val:Int)]) (EH n₀ Bn) (fun ys=>D1 ys=CH (xOf M) 10) (fun pre=>∃i,i≤10∧D1 pre=CH (xOf M) i) 10 w:=fun l J Jx W hW _ _ hY h0=>
 QX n hn l Bn n₀ M J Jx hY W ((hW.block Bn hBn.lt).trans hBn) h0
theorem Ke(M:Int)(k:Nat)(hk:k≤10)(w:World):Calls Tryz.prog 209 #[.int .i64 M,.int .i64 (k:Int)] w fun e w'=>e= .returned (.int .i64 ((Fv (xOf M) k:Nat):Int))∧Below w.heap.size w w':=by
 have HMem:=AA (fun W=>NS M W);refine(callsIn_wide (n:=3)).1 ?_;refine callsIn_of_wp_marks Tryz.func209 rfl trivial ?_ rfl;simp only[Tryz.ntmps209,List.size_toArray,Af,List.length_nil,Nat.reduceAdd,Nat.reduceSub,Array.replicate_succ,Array.replicate_zero,List.push_toArray,List.append_toArray,List.nil_append,List.cons_append]
 gi_wp2_with (refine⟨trivial,?_⟩;gi_at_call 86;refine(callsIn_wide.2 (HMem.out _)).mono ?_;rintro e w' ⟨rfl,rfl⟩)
 have bK:=Boxed.new w 3 (.int .i64 (k:Int));have bO:=Boxed.new (w.alloc (.cells #[.int .i64 (k:Int)] 3)) 22 (.int .i64 0);have bN:=Boxed.new ((w.alloc (.cells #[.int .i64 (k:Int)] 3)).alloc (.cells #[.int .i64 0] 22)) 22 (.int .i64 M);rw[World.size_alloc]at bO;rw[World.size_alloc,World.size_alloc]at bN;have hB0:Below w.heap.size w (((w.alloc (.cells #[.int .i64 (k:Int)] 3)).alloc (.cells #[.int .i64 0] 22)).alloc (.cells #[.int .i64 M] 22)):=(((AC _ w).alloc (AB _) _).alloc (by simp) _).alloc (by simp;omega) _;obtain⟨W0,hW0⟩:∃W0,W0=(((w.alloc (.cells #[.int .i64 (k:Int)] 3)).alloc (.cells #[.int .i64 0] 22)).alloc (.cells #[.int .i64 M] 22)):=⟨_,rfl⟩;have hs0:W0.heap.size=w.heap.size+3:=by rw[hW0];simp
 have bK0:Boxed W0 w.heap.size 3 (.int .i64 (k:Int)):=by rw[hW0];exact(bK.alloc _).alloc _
 have bO0:Boxed W0 (w.heap.size+1) 22 (.int .i64 0):=by rw[hW0];exact bO.alloc _
 rw[←hW0]at bN hB0 ⊢;clear hW0 bK bO;refine wpIn_rangeFunc_ownG rfl (by omega) (gf:=128) (lb:=#[.pointer (some ⟨w.heap.size+2,0,none⟩)]) rfl trivial (enters_of Tryz.func128 (by kernel_rfl) rfl)
  (Oj (3-1) (by omega) (w.heap.size+2) w.heap.size M W0 bN) (Kp:=EH w.heap.size (w.heap.size+2)) LD (fun W l o o' hl hlo hc hwk=>⟨belowK_b (w:=W0) (by omega) W l o o' hl hlo hc hwk,(grownBy_putObj' W l o').block _ (by have:=(Aa.1 hlo).1;omega) (fun e=>by cases e;omega)⟩) (AC _ _) (by intro x;rfl)
  (fun pre W=>(pre.length≤k∧Boxed W w.heap.size 3 (.int .i64 ((k:Int)-pre.length))∧Boxed W (w.heap.size+1) 22 (.int .i64 ((IG (D1 pre):Nat):Int))∧Boxed W (w.heap.size+2) 22 (.int .i64 M))∧Below w.heap.size w W)
  (fun c pre W=>(c= .exit 0∧k<pre.length∧Boxed W (w.heap.size+1) 22 (.int .i64 ((IG ((D1 pre).take k):Nat):Int)))∧Below w.heap.size w W)
  (OwnFrom.and (OwnFrom.and (ownFrom_pure _ _) (OwnFrom.and (Own.from (boxed_own w.heap.size 3 (fun pre:List (Fin 10)=>.int .i64 ((k:Int)-pre.length))) _) (OwnFrom.and (Own.from (boxed_own (w.heap.size+1) 22 (fun pre:List (Fin 10)=>.int .i64 ((IG (D1 pre):Nat):Int))) _) (Own.from (boxed_own (w.heap.size+2) 22 (fun _=>.int .i64 M)) _)))) (ownFrom_below (AB _) (by omega)))
  (fun c=>OwnFrom.and (OwnFrom.and (ownFrom_pure _ _) (OwnFrom.and (ownFrom_pure _ _) (Own.from (boxed_own (w.heap.size+1) 22 (fun pre:List (Fin 10)=>.int .i64 ((IG ((D1 pre).take k):Nat):Int))) _))) (ownFrom_below (AB _) (by omega)))
  ⟨⟨Nat.zero_le _,by simpa using bK0,by simpa[IG]using bO0,bN⟩,hB0⟩
  (fun x=>{tmps:=#[.int .i64 M,.int .i64 (k:Int),undef,.pointer (some ⟨w.heap.size,0,none⟩),.int .i64 0,.pointer (some ⟨w.heap.size+1,0,none⟩),.int .i64 (x.val:Int),.int .i64 M,.func (.func 128) #[] #[.pointer (some ⟨w.heap.size+2,0,none⟩)],.int .i64 (x.val:Int),undef,undef,undef,undef,undef,undef,undef,undef,undef],defers:=[]}) ?assign ?body ?done ?stop
 case assign=>
  intro l x W K hK
  gi_wp2
  exact hK
 case body=>
  rintro l pre x W ⟨⟨hlen,hK,hO,hm⟩,hB⟩ hlt;have hc:=hK.cell;have hfk:=hK.frozen;obtain⟨S,hS⟩:∃S,S=IG (D1 pre):=⟨_,rfl⟩;rw[←hS]at hO;have ho:=hO.cell;have hfo:=hO.frozen;obtain⟨n,hn⟩:∃n,n=pre.length:=⟨_,rfl⟩;rw[←hn]at hc hK hlen;have hS10:S<1024:=by rw[hS];exact NV (Rq pre)
  by_cases hk0:n<k
  ·have dk:decide ((k:Int)-(n:Int)<1)=false:=by simp;omega
   have hx9:x.val≤9:=by have:=x.2;omega
   obtain⟨S2,hS2⟩:∃S2,S2=S|||2^x.val:=⟨_,rfl⟩;have hor:=Si S x.val hS10 hx9;rw[←hS2]at hor;have hwk:IntKind.i64.wrap ((k:Int)-(n:Int)-1)=(k:Int)-((n:Int)+1):=by rw[IntKind.wrap_i64];omega
   have hSn:S2=IG (D1 (pre++[x])):=by rw[hS2,hS];simp[D1,IG,List.foldl_append]
   obtain⟨WD,hWD⟩:∃WD,WD=((W.setCell ⟨w.heap.size+1,0,none⟩ (.int .i64 (S2:Int))).setCell ⟨w.heap.size,0,none⟩ (.int .i64 ((k:Int)-((n:Int)+1)))).drew:=⟨_,rfl⟩;have hB1:Below w.heap.size W WD:=by rw[hWD];exact(((AC w.heap.size W).setCell (p:=⟨w.heap.size+1,0,none⟩) (Nat.le_succ _) _).setCell (p:=⟨w.heap.size,0,none⟩) (AB _) _).drew
   have hm1:Boxed WD (w.heap.size+2) 22 (.int .i64 M):=by rw[hWD];exact(hm.other (by omega) _).other (by omega) _
   have hO1:Boxed WD (w.heap.size+1) 22 (.int .i64 (S2:Int)):=by rw[hWD];exact(hO.set (.int .i64 (S2:Int))).other (by omega) _
   have hK1:Boxed WD w.heap.size 3 (.int .i64 ((k:Int)-((n:Int)+1))):=by rw[hWD];exact Boxed.set _ (hK.other (by omega) _)
   have hfin:(∀B,KeepsFrom B W WD)∧EH w.heap.size (w.heap.size+2) W WD∧
     ((pre++[x]).length≤k∧Boxed WD w.heap.size 3 (.int .i64 ((k:Int)-(pre++[x]).length))∧Boxed WD (w.heap.size+1) 22 (.int .i64 ((IG (D1 (pre++[x])):Nat):Int))∧Boxed WD (w.heap.size+2) 22 (.int .i64 M))∧
     Below w.heap.size w WD:=
    ⟨fun B=>by rw[hWD];exact(((KeepsOthers.setCell _ _ _).trans (KeepsOthers.setCell _ _ _)).trans (KeepsOthers.drew _)).from B,⟨hB1,hm1.trans hm.symm⟩,⟨by rw[AI,List.length_singleton,←hn];omega,by rw[AI,List.length_singleton,←hn,Int.natCast_add];exact hK1,by rw[←hSn];exact hO1,hm1⟩,hB.trans hB1⟩
   have HF:=AA hfin;have HWD:=AA hWD;clear hfin hB1 hm1 hO1 hK1 hS2 hSn hS hn hO hK hm hWD
   gi_wp2
   gi_region
   all_goals gi_wp2
   all_goals (rw[←HWD.out];exact⟨HF.out.1 _,HF.out.2⟩)
  ·have dk:decide ((k:Int)-(n:Int)<1)=true:=by simp;omega
   have hnk:n=k:=by omega
   have hfin:k<(pre++[x]).length∧Boxed W (w.heap.size+1) 22 (.int .i64 ((IG ((D1 (pre++[x])).take k):Nat):Int)):=
    ⟨by rw[AI,List.length_singleton,←hn];omega,by
     rw[show(D1 (pre++[x])).take k=D1 pre by
      rw[show D1 (pre++[x])=D1 pre++[x.val]by simp[D1],←hnk,hn,←Ga pre,List.take_left],←hS]
     exact hO⟩
   have HF:=AA hfin;clear hfin hS hn hO hK hm
   gi_wp2
   exact⟨KeepsFrom.refl _ _,⟨rfl,HF.out⟩,hB⟩
 case done=>
  rintro D ys W hD hys ⟨⟨hlen,hK,hO,hm⟩,hB⟩ hKD;have hc:=hO.cell
  gi_wp2
  refine⟨by simp,.inl ⟨_,_,rfl,run_takeDeferred hKD,?_⟩⟩;refine⟨_,results_tmp rfl _ _ _,?_,hB.trans (belowK_b (w:=w) (AB _) W D _ _ (by omega) hKD rfl rfl)⟩;unfold Fv;rw[←hys,AT (by rw[Ga];exact hlen)];rfl
 case stop=>
  rintro D c pre W hD ⟨i,hi,hpre⟩ ⟨⟨rfl,hlen,hO⟩,hB⟩ hKD;have hc:=hO.cell
  gi_wp2
  refine⟨by simp,.inl ⟨_,_,rfl,run_takeDeferred hKD,?_⟩⟩;refine⟨_,results_tmp rfl _ _ _,?_,hB.trans (belowK_b (w:=w) (AB _) W D _ _ (by omega) hKD rfl rfl)⟩;unfold Fv;rw[QW hi (by rw[←hpre,Ga];omega)];rfl
end
section
open Go.RowKit Go.Shelf
attribute [local go_sem ↓] Go.wp_at_zero Go.wp_at_succ An Au Av Aw DK
attribute [local go_sem] BD BH BI BJ EO AN AW AQ
theorem Ok{w:World}{b:Nat}{M f:Int}{q s:Nat}{p:Nm}{A:Option Addr}{c mo:Nat}{O:List Vt}{ow:Int→Int→Bool}(h:EU w b M (q:Int) (s:Int) f p A c mo O ow)(hq:q=B9 (At (xOf M) 10))(hq10:q≤10)(A':Option Addr)(n' c':Nat)(l:List Vt)(hn:l.length=n')(hr:Rd w w.heap.size A' (l.flatMap vtc))(hsm:n'≤1000000)(hl:∀v∈l,Ae v)(hs:(xOf M).testBit s=true)(wt:Bool):Calls Tryz.prog 161 #[.pointer (some ⟨b,0,none⟩),.slice A' n' c',.bool wt] w (Cv (D0 M q p s f l wt ow) w):=by
 obtain⟨w1,hw1⟩:∃w1,w1=w.alloc (.cells Ah 46):=⟨_,rfl⟩;have hb1:Below w.heap.size w w1:=by rw[hw1];exact(AC _ _).alloc (AB _) _
 obtain⟨g,hg⟩:∃g,g=w.heap.size:=⟨_,rfl⟩;have hG1:Blk w1 g 46 Ah:=by rw[hw1,hg];exact Blk.new w _ _
 have hgw:w.heap.size≤g:=by omega
 have hgl:g<w1.heap.size:=hG1.lt;have hV1:=h.below hb1;have HV:Hid (∀V,Below w1.heap.size w1 V→EU V b M (q:Int) (s:Int) f p A c mo O ow):=fun V hV=>hV1.below hV
 have HG:Hid (∀V,Below w1.heap.size w1 V→Blk V g 46 Ah):=fun V hV=>hG1.below hV hG1.lt
 have HS:Hid (∀V,Below w1.heap.size w1 V→V.cell? ⟨b,0,none⟩=some (.int .i64 M)∧AK V b 4 8=some p.cells∧V.cell? ⟨b,2,none⟩=some (.int .i64 (s:Int))∧V.cell? ⟨b,1,none⟩=some (.int .i64 (q:Int))):=fun V hV=>⟨(hV1.below hV).blk.cell 0,(hV1.below hV).row_parent,(hV1.below hV).blk.cell 2,(hV1.below hV).blk.cell 1⟩
 have HSgd:=AA (DN hV1 3 1);have HRl:Hid (∀V,Below w1.heap.size w1 V→Rd V V.heap.size A' (l.flatMap vtc)):=fun V hV=>(hr.below (hb1.trans (hV.mono hb1.size))).more (AF hb1.size hV.size)
 have HCe:Hid (∀V,Below w1.heap.size w1 V→Calls Tryz.prog 207 #[.int .i64 M,p.val,.slice A' n' c',.int .i64 (s:Int)] V (IP M p s 2 q l V)):=fun V hV=>by rw[hq];exact Oi M p A' n' c' l s V hn (HRl.out V hV) hsm hl hs
 have HEc:Hid (∀(k:Nm) (V:World),Below w1.heap.size w1 V→Calls Tryz.prog 208 #[.int .i64 M,p.val,.slice A' n' c',.int .i64 (s:Int),k.val] V (IA M p s l k V)):=fun k V hV=>Ln M p A' n' c' l s k V hn (HRl.out V hV) hsm hl hs
 have HLo:Hid (∀(X:Int) (V:World),Calls Tryz.prog 209 #[.int .i64 X,.int .i64 (q:Int)] V fun e w'=>e= .returned (.int .i64 ((Fv (xOf X) q:Nat):Int))∧Below V.heap.size V w'):=fun X V=>Ke X q hq10 V
 have HVo:Hid (∀(V:World) (x:Vl) (sup:Int),Below w1.heap.size w1 V→Calls Tryz.prog 206 #[.pointer (some ⟨b,0,none⟩),.int .i64 3,.int .i64 1,x.val,.int .i64 sup] V (fun e w'=>e= .returned (.tuple #[(Vt.mk 3 (s:Int) 1 x.choice f sup p x.name).val,.bool true])∧Below V.heap.size V w')):=fun V x sup hV=>FX (hV1.below hV) 3 1 x sup
 have hN6:l.length≤1000000:=by omega
 have HSg9:Hid (∀O,Ea M p (s:Int) (slB s l) O→∀v∈O,0≤v.signer∧v.signer≤9):=fun O hO v hv=>(hl v (Nf (hO.1.2 v hv).1).1).2.1
 have HB1:=AA hb1;have HW1:=AA hw1;have HGg:=AA hg;obtain⟨d,hd⟩:∃d,d=ow 3 1:=⟨_,rfl⟩;rw[←hd]at HSgd;have hbx:Below w1.heap.size w1 w1:=AC _ _;clear h hn hr hsm hl hs hw1 hb1 hg hG1 hV1 hq hq10;go_enter Tryz.func161,Tryz.ntmps161;go_upto_region 1 with fail
 simp only[←HW1.out,←HGg.out];cases d with
 |true=>
  have HD:=AA hd.symm;clear hd;go_wp2_with (first
   |(go_at_call 204;refine HSgd.out.mono ?_;rintro en w2 ⟨rfl,hw2⟩;replace hw2:=hw2.symm;subst hw2)
   |(refine AJ rfl 46 (.tmp 6) (.tmp 12) rfl g Ah rfl rfl 46 Ah (HG.out _ hbx) rfl Ao (fun u hu=>CE hu) ?_;intro w9 hR9 hg9 hsz9))
  refine bodyPost_ret (Ab (g:=g) (cs:=Ah) rfl _ _ _ _ _ rfl hR9 Tryz.underlying46 rfl Ao) rfl ⟨none,rfl,.inl HD.out,?_⟩;exact HB1.out.grown hg9 HB1.out.size (fun k hk=>by injection hk with hk;subst hk;exact hgw)
 |false=>
  have HD:=AA hd.symm;clear hd;go_upto_region 3 with(go_at_call 204;refine HSgd.out.mono ?_;rintro en w2 ⟨rfl,hw2⟩;replace hw2:=hw2.symm;subst hw2)
  refine rgD (fun V=>V.cell? ⟨b,0,none⟩=some (.int .i64 M)∧AK V b 4 8=some p.cells∧V.cell? ⟨b,2,none⟩=some (.int .i64 (s:Int))∧V.cell? ⟨b,1,none⟩=some (.int .i64 (q:Int))) (HS.out _ hbx.drew) fun hHeld=>?_
  refine tkD 13 0 ?_;go_frame;refine tkD 14 1 ?_;go_frame;refine tkD 15 2 ?_;go_frame;refine tkD 16 3 ?_;go_frame;refine tkD 17 4 ?_;go_frame;refine tkD 18 5 ?_;go_frame;refine tkD 19 6 ?_;go_frame;refine tkD 20 7 ?_;go_frame;refine tkD 21 8 ?_;go_frame;refine tkD 22 9 ?_;go_frame;refine tkD 23 10 ?_;go_frame;refine tkD 24 11 ?_;go_frame;refine tkD 25 12 ?_;go_frame;refine rd1 13 fun K hK=>?_
  go_simp;refine(HCe.out _ hbx.drew).mono ?_;rintro en w3 ⟨v3,O3,L,rfl,hO3,hA3,hL3,hown3,hb3⟩;have hbx3:=hbx.drew.trans (hb3.mono (AB _));obtain⟨A3,c3,rfl,hR3,hne3⟩:∃A1 c1,v3= .slice A1 L.length c1∧Rd w3 w3.heap.size A1 (L.flatMap nmc)∧∀p':Addr,A1=some p'→some p'.block≠some g:=(by
   rcases hown3.2 with⟨rfl,h0⟩|⟨g',cap,cur,rfl,hg',_⟩
   ·exact⟨none,0,by rw[h0],.inl (AV (by rw[hown3.1,h0,Nat.zero_mul])),fun p' h=>(by cases h)⟩
   ·exact⟨_,cap,rfl,Rd.of_own hown3,fun p' h e=>by injection h with h;subst h;injection e with e;exact absurd e (Nat.ne_of_gt (Nat.lt_of_lt_of_le hgl hg'))⟩)
  have HNe:=AA hne3;clear hne3;have HR3:=AA hR3;have HO3:=AA hO3;have HA3:=AA hA3;obtain⟨nL,hnL⟩:∃nL,L.length=nL:=⟨_,rfl⟩;rw[hnL]at hL3 ⊢;have HNL:=AA hnL;clear hown3 hR3 hO3 hA3 hb3 hnL;go_wp2_with fail
  refine hK.out _ _ (HS.out _ hbx3) (fun hHeld=>?_);clear hK K;try go_frame
  refine tkD 8 14 ?_;go_frame;refine dnD ?_;have hnL6:nL≤1000000:=by omega
  rcases Nat.eq_zero_or_pos nL with h0|h0
  ·subst h0;have hnil:L=[]:=AV HNL.out;subst hnil;cases wt with
   |true=>
    obtain⟨v,hv⟩:∃v:Vt,v=Vt.mk 3 (s:Int) 1 0 f 0 p Nm.zero:=⟨_,rfl⟩;have HVv:=AA hv;have HVo':Hid (∀(V:World),Below w1.heap.size w1 V→Calls Tryz.prog 206 #[.pointer (some ⟨b,0,none⟩),.int .i64 3,.int .i64 1,.agg CS,.int .i64 0] V (fun e w'=>e= .returned (.tuple #[v.val,.bool true])∧Below V.heap.size V w')):=fun V hV=>by rw[hv];exact HVo.out V Vl.zero 0 hV
    clear hv;go_wp2_with (first
     |(go_at_call 206;refine(HVo'.out _ hbx3).mono ?_;rintro en w7 ⟨rfl,hb7⟩;have hbx7:=hbx3.trans (hb7.mono hbx3.size))
     |(refine AJ rfl 46 (.tmp 6) (.tmp 67) rfl g (v).cells rfl rfl 46 Ah (HG.out _ hbx7) rfl Ao (fun u hu=>BM _ hu) ?_;intro w9 hR9 hg9 hsz9))
    have hb07:=HB1.out.trans (hbx7.mono HB1.out.size);refine bodyPost_ret (Ab (g:=g) (cs:=(v).cells) rfl _ _ _ _ _ rfl hR9 Tryz.underlying46 rfl Ao) rfl ⟨some (v),rfl,⟨HD.out,.inr ⟨rfl,⟨O3,HO3.out,HA3.out⟩,HVv.out⟩⟩,?_⟩;exact Below.grown (hb07) hg9 (Below.size (hb07)) (fun k hk=>by injection hk with hk;subst hk;exact hgw)
   |false=>
    have hb03:=HB1.out.trans (hbx3.mono HB1.out.size);go_wp2_with (refine AJ rfl 46 (.tmp 6) (.tmp 63) rfl g Ah rfl rfl 46 Ah (HG.out _ hbx3) rfl Ao (fun u hu=>CE hu) ?_;intro w9 hR9 hg9 hsz9)
    refine bodyPost_ret (Ab (g:=g) (cs:=Ah) rfl _ _ _ _ _ rfl hR9 Tryz.underlying46 rfl Ao) rfl ⟨none,rfl,.inr ⟨rfl,O3,HO3.out,HA3.out⟩,?_⟩;exact Below.grown (hb03) hg9 (Below.size (hb03)) (fun k hk=>by injection hk with hk;subst hk;exact hgw)
  ·have d0:decide ((0:Int)<(nL:Int))=true:=by simp;omega
   obtain⟨x,hx⟩:∃x,L[0]? =some x:=⟨_,AE (by rw[HNL.out];exact h0)⟩;obtain⟨g0,o,rfl,hb,hcell⟩:=HR3.out.cells (by intro e;have:=AX nmc 8 L (Cb L);rw[e,HNL.out]at this;simp at this;omega);clear hcell;have HX3:Hid (∀V,Below w3.heap.size w3 V→AK V g0 o 8=some x.cells):=fun V hV=>by have:=(HR3.out.below hV).row hx;rwa[Nat.zero_mul,Nat.add_zero]at this
   have hxa:=(HA3.out x).1 (AM hx);have HXa:=AA hxa;have HX0:=AA hx;have HS3:Hid (∀V,Below w3.heap.size w3 V→V.cell? ⟨b,0,none⟩=some (.int .i64 M)∧AK V b 4 8=some p.cells∧V.cell? ⟨b,2,none⟩=some (.int .i64 (s:Int))∧V.cell? ⟨b,1,none⟩=some (.int .i64 (q:Int))∧AK V g0 o 8=some x.cells):=fun V hV=>by
    obtain⟨h1,h2,h3,h4⟩:=HS.out V (hbx3.trans (hV.mono hbx3.size));exact⟨h1,h2,h3,h4,HX3.out V hV⟩
   have hb33:Below w3.heap.size w3 w3:=AC _ _;have hln:(0:Int)<(nL:Int):=by omega
   clear hx hxa;go_upto_region 5 with fail
   refine rgD (fun V=>V.cell? ⟨b,0,none⟩=some (.int .i64 M)∧AK V b 4 8=some p.cells∧V.cell? ⟨b,2,none⟩=some (.int .i64 (s:Int))∧V.cell? ⟨b,1,none⟩=some (.int .i64 (q:Int))∧AK V g0 o 8=some x.cells) (HS3.out _ hb33.drew) fun hHeld=>?_
   refine tkD 30 0 ?_;go_frame;refine tkD 31 1 ?_;go_frame;refine tkD 32 2 ?_;go_frame;refine tkD 33 3 ?_;go_frame;refine tkD 34 4 ?_;go_frame;refine tkD 35 5 ?_;go_frame;refine tkD 36 6 ?_;go_frame;refine tkD 37 7 ?_;go_frame;refine tkD 38 8 ?_;go_frame;refine tkD 39 9 ?_;go_frame;refine tkD 40 10 ?_;go_frame;refine tkD 41 11 ?_;go_frame;refine tkD 42 12 ?_;go_frame;refine tkD 43 13 ?_;go_frame;refine tkD 44 14 ?_;go_frame;refine tkD 45 15 ?_;go_frame;refine rd1 16 fun K hK=>?_
   go_simp;refine(HEc.out x _ (hbx3.trans (hb33.drew.mono hbx3.size))).mono ?_;rintro en w5 ⟨O5,rfl,hO5,hb5⟩;have hb35:=hb33.drew.trans (hb5.mono (AB _));obtain⟨S5,hS5⟩:∃S5,S5=Bq (pK 2 x) O5:=⟨_,rfl⟩;have hS510:S5<1024:=(by rw[hS5];exact FV (HSg9.out O5 hO5));rw[←hS5];have HO5:=AA hO5;have HS5:=AA hS5;clear hO5 hS5 hb5;go_wp2_with fail
   refine hK.out _ _ (HS3.out _ hb35) (fun hHeld=>?_);clear hK K;try go_frame
   refine tkD 9 17 ?_;go_frame;refine dnD ?_;go_upto_region 6 with fail
   have hbx5:=hbx3.trans (hb35.mono hbx3.size);obtain⟨lw,hlw⟩:∃lw,lw=Fv S5 q:=⟨_,rfl⟩;have HLo5:Hid (∀V,Calls Tryz.prog 209 #[.int .i64 (S5:Int),.int .i64 (q:Int)] V fun e w'=>e= .returned (.int .i64 (lw:Int))∧Below V.heap.size V w'):=fun V=>by
    have h:=HLo.out (S5:Int) V;rwa[FT S5 hS510,←hlw]at h
   obtain⟨v,hv⟩:∃v:Vt,v=Vt.mk 3 (s:Int) 1 1 f (lw:Int) p x:=⟨_,rfl⟩;have HVv:=AA hv;have HLw:=AA hlw;have HVo':Hid (∀(V:World),Below w1.heap.size w1 V→Calls Tryz.prog 206 #[.pointer (some ⟨b,0,none⟩),.int .i64 3,.int .i64 1,(Vl.mk 1 x).val,.int .i64 (lw:Int)] V (fun e w'=>e= .returned (.tuple #[v.val,.bool true])∧Below V.heap.size V w')):=fun V hV=>by rw[hv];exact HVo.out V (Vl.mk 1 x) lw hV
   have HK9:Hid (∀V V',Below w3.heap.size w3 V→V.grownBy V' (some g)→V'.cell? ⟨b,0,none⟩=some (.int .i64 M)∧AK V' b 4 8=some p.cells∧V'.cell? ⟨b,2,none⟩=some (.int .i64 (s:Int))∧V'.cell? ⟨b,1,none⟩=some (.int .i64 (q:Int))∧AK V' g0 o 8=some x.cells):=fun V V' hV hg=>by
    have hv:=HV.out V (hbx3.trans (hV.mono hbx3.size));have hbg:b≠g:=by intro e;have h1:=hv.blk;have h2:=HG.out V (hbx3.trans (hV.mono hbx3.size));rw[e]at h1;exact absurd (Cd h1 h2) (by decide)
    have hb9:=hv.blk.kept hg (by intro e;injection e with e;exact hbg e);refine⟨hb9.cell 0,Blk.part hb9 4 p.cells (fun j u hu=>by
     have hj:j<8:=(Aa.1 hu).1;rcases(by omega:j=0∨j=1∨j=2∨j=3∨j=4∨j=5∨j=6∨j=7)with rfl|rfl|rfl|rfl|rfl|rfl|rfl|rfl <;> exact hu),hb9.cell 2,hb9.cell 1,?_⟩
    have h9:=(((HR3.out.below hV).kept hg hV.size HNe.out).row HX0.out);rwa[Nat.zero_mul,Nat.add_zero]at h9
   clear hv hlw;refine rgD (fun V=>V.cell? ⟨b,0,none⟩=some (.int .i64 M)∧AK V b 4 8=some p.cells∧V.cell? ⟨b,2,none⟩=some (.int .i64 (s:Int))∧V.cell? ⟨b,1,none⟩=some (.int .i64 (q:Int))∧AK V g0 o 8=some x.cells) (HS3.out _ hb35.drew) fun hHeld=>?_
   refine tkD 47 0 ?_;go_frame;refine tkD 48 1 ?_;go_frame;refine tkD 49 2 ?_;go_frame;refine tkD 50 3 ?_;go_frame;refine Az (some 51) (i:=4) (v:=(Vl.mk 1 x).val) rfl rfl (by kernel_rfl) (by kernel_rfl) (by kernel_rfl) (fun _ _ _ h=>h) (by rfl) (fun wq _=>Ey 1 x (.const (.int .i64 1)) (.tmp 50) rfl rfl rfl wq) (by assumption) ?_;go_frame;refine tkD 52 5 ?_;go_frame;refine tkD 53 6 ?_;go_frame;refine tkD 54 7 ?_;go_frame;refine tkD 55 8 ?_;go_frame;refine tkD 56 9 ?_;go_frame;refine rd1 10 fun K hK=>?_
   go_simp;refine(HLo5.out _).mono ?_;rintro en w6 ⟨rfl,hb6⟩;have hb36:=hb35.drew.trans (hb6.mono hb35.size);go_wp2_with fail
   refine hK.out _ _ (HS3.out _ hb36) (fun hHeld=>?_);clear hK K;try go_frame
   refine rd1 11 fun K hK=>?_
   go_simp;refine(HVo'.out _ (hbx3.trans (hb36.mono hbx3.size))).mono ?_;rintro en w7 ⟨rfl,hb7⟩;have hb37:=hb36.trans (hb7.mono hb36.size);have hbx7:=hbx3.trans (hb37.mono hbx3.size);go_wp2_with fail
   refine hK.out _ _ (HS3.out _ hb37) (fun hHeld=>?_);clear hK K;try go_frame
   refine tkD 59 12 ?_;go_frame;refine tkD 60 13 ?_;go_frame;refine rd1 14 fun K hK=>?_
   rw[if_pos (by rfl)];refine BQ 46 (.tmp 6) (.tmp 59) (by rfl) g v.cells (by rfl) (by rfl) 46 Ah (HG.out _ hbx7) (by rfl) Ao (fun u hu=>BM _ hu) (by rfl) ?_;intro w9 hR9 hg9 hsz9;refine hK.out _ _ (HK9.out _ _ hb37 hg9) (fun hHeld=>?_);clear hK K;try go_frame
   refine tkD 7 15 ?_;go_frame;refine dnD ?_;go_wp2_with fail
   have hb07:=HB1.out.trans (hbx7.mono HB1.out.size);refine bodyPost_ret (Ab (g:=g) (cs:=(v).cells) rfl _ _ _ _ _ rfl hR9 Tryz.underlying46 rfl Ao) rfl ⟨some (v),rfl,⟨HD.out,.inl ⟨O3,O5,x,HO3.out,HO5.out,HXa.out.1,HXa.out.2,by rw[←HS5.out,←HLw.out];exact HVv.out⟩⟩,?_⟩;exact Below.grown (hb07) hg9 (Below.size (hb07)) (fun k hk=>by injection hk with hk;subst hk;exact hgw)
theorem T1(x:Vl)(b n0:Nat)(W0:World)(hb:b<n0)(hB0:Blk W0 b 258 x.cells):By n0 W0 212 #[.pointer (some ⟨b,0,none⟩)] (fun v=>decide (Ew v=x)):=by
 refine⟨enters_of Tryz.func212 (by kernel_rfl) rfl,fun V hV u hu=>?_⟩;have hB:=hB0.below hV hb;obtain⟨W1,hW1⟩:∃W1,W1=V.alloc (Obj.cells u.cells 46):=⟨_,rfl⟩;obtain⟨z,hz⟩:∃z,z=V.heap.size:=⟨_,rfl⟩;have hbw:Below V.heap.size V W1:=by rw[hW1];exact(AC _ _).alloc (AB _) _
 have hB1:Blk W1 b 258 x.cells:=hB.below hbw hB.lt;have hZ1:Blk W1 z 46 u.cells:=by rw[hW1,hz];exact Blk.new V _ _
 have HS:Hid (∀W,Below W1.heap.size W1 W→AK W z 0 22=some u.cells∧AK W b 0 9=some x.cells):=fun W hW=>⟨(hZ1.below hW hZ1.lt).row 22 rfl,(hB1.below hW hB1.lt).row 9 rfl⟩
 obtain⟨y,hy⟩:∃y,y=Ew u:=⟨_,rfl⟩;have HOf:Hid (∀W,Calls Tryz.prog 213 #[u.val] W fun e w'=>e= .returned y.val∧Below W.heap.size W w'):=fun W=>by rw[hy];exact IZ u W
 rw[←hy];obtain⟨k,hk⟩:∃k,k=decide (y=x):=⟨_,rfl⟩;have e9:∀W,(Op.equalIn 10000 258 (.agg y.cells) (.agg x.cells)).run Tryz.prog W= .ok k W:=fun W=>by rw[hk];exact Sh y x W
 rw[←hk];have HW1:=AA hW1;have HZ:=AA hz;have HBw:=AA hbw;have hbx:Below W1.heap.size W1 W1:=AC _ _;clear hB hB1 hZ1 hW1 hz hbw hB0 hy hk hV hb;show Calls Tryz.prog 212 #[u.val,.pointer (some ⟨b,0,none⟩)] V _;go_enter Tryz.func212,Tryz.ntmps212;go_upto_region 1 with fail
 simp only[←HW1.out,←HZ.out];refine rgD (fun W=>AK W z 0 22=some u.cells∧AK W b 0 9=some x.cells) (HS.out _ hbx.drew) fun hHeld=>?_
 refine tkD 4 0 ?_;go_frame;refine tkD 6 2 ?_;go_frame;refine rd1 1 fun K hK=>?_
 go_simp;refine(HOf.out _).mono ?_;rintro en w2 ⟨rfl,hb2⟩;have hbx2:=hbx.drew.trans (hb2.mono (AB _));go_wp2_with fail
 refine hK.out _ _ (HS.out _ hbx2) (fun hHeld=>?_);clear hK K;try go_frame
 refine tkD 7 3 ?_;go_frame;refine tkD 3 4 ?_;go_frame;refine dnD ?_;go_wp2;go_ret;exact⟨rfl,HBw.out.trans (hbx2.mono HBw.out.size)⟩
theorem T2(x:Vl)(b n0:Nat)(W0:World)(hb:b<n0)(hB0:Blk W0 b 258 x.cells):By n0 W0 217 #[.pointer (some ⟨b,0,none⟩)] (fun v=>decide (Ew v=x)):=by
 refine⟨enters_of Tryz.func217 (by kernel_rfl) rfl,fun V hV u hu=>?_⟩;have hB:=hB0.below hV hb;obtain⟨W1,hW1⟩:∃W1,W1=V.alloc (Obj.cells u.cells 46):=⟨_,rfl⟩;obtain⟨z,hz⟩:∃z,z=V.heap.size:=⟨_,rfl⟩;have hbw:Below V.heap.size V W1:=by rw[hW1];exact(AC _ _).alloc (AB _) _
 have hB1:Blk W1 b 258 x.cells:=hB.below hbw hB.lt;have hZ1:Blk W1 z 46 u.cells:=by rw[hW1,hz];exact Blk.new V _ _
 have HS:Hid (∀W,Below W1.heap.size W1 W→AK W z 0 22=some u.cells∧AK W b 0 9=some x.cells):=fun W hW=>⟨(hZ1.below hW hZ1.lt).row 22 rfl,(hB1.below hW hB1.lt).row 9 rfl⟩
 obtain⟨y,hy⟩:∃y,y=Ew u:=⟨_,rfl⟩;have HOf:Hid (∀W,Calls Tryz.prog 213 #[u.val] W fun e w'=>e= .returned y.val∧Below W.heap.size W w'):=fun W=>by rw[hy];exact IZ u W
 rw[←hy];obtain⟨k,hk⟩:∃k,k=decide (y=x):=⟨_,rfl⟩;have e9:∀W,(Op.equalIn 10000 258 (.agg y.cells) (.agg x.cells)).run Tryz.prog W= .ok k W:=fun W=>by rw[hk];exact Sh y x W
 rw[←hk];have HW1:=AA hW1;have HZ:=AA hz;have HBw:=AA hbw;have hbx:Below W1.heap.size W1 W1:=AC _ _;clear hB hB1 hZ1 hW1 hz hbw hB0 hy hk hV hb;show Calls Tryz.prog 217 #[u.val,.pointer (some ⟨b,0,none⟩)] V _;go_enter Tryz.func217,Tryz.ntmps217;go_upto_region 1 with fail
 simp only[←HW1.out,←HZ.out];refine rgD (fun W=>AK W z 0 22=some u.cells∧AK W b 0 9=some x.cells) (HS.out _ hbx.drew) fun hHeld=>?_
 refine tkD 4 0 ?_;go_frame;refine tkD 6 2 ?_;go_frame;refine rd1 1 fun K hK=>?_
 go_simp;refine(HOf.out _).mono ?_;rintro en w2 ⟨rfl,hb2⟩;have hbx2:=hbx.drew.trans (hb2.mono (AB _));go_wp2_with fail
 refine hK.out _ _ (HS.out _ hbx2) (fun hHeld=>?_);clear hK K;try go_frame
 refine tkD 7 3 ?_;go_frame;refine tkD 3 4 ?_;go_frame;refine dnD ?_;go_wp2;go_ret;exact⟨rfl,HBw.out.trans (hbx2.mono HBw.out.size)⟩
theorem T3(n0:Nat)(W0:World):By n0 W0 215 #[] (fun _=>true):=by
 refine⟨enters_of Tryz.func215 (by kernel_rfl) rfl,fun V hV u hu=>?_⟩;show Calls Tryz.prog 215 #[u.val] V _;have hbw:Below V.heap.size V (V.alloc (Obj.cells u.cells 46)):=(AC _ _).alloc (AB _) _;go_enter Tryz.func215,Tryz.ntmps215;go_wp2;go_ret;exact⟨rfl,hbw⟩
theorem T5(n0:Nat)(W0:World):By n0 W0 216 #[] (fun v=>decide (v.choice=2)):=by
 refine⟨enters_of Tryz.func216 (by kernel_rfl) rfl,fun V hV u hu=>?_⟩;show Calls Tryz.prog 216 #[u.val] V _;have hbw:Below V.heap.size V (V.alloc (Obj.cells u.cells 46)):=(AC _ _).alloc (AB _) _;have x3:(V.alloc (Obj.cells u.cells 46)).cell? ⟨V.heap.size,3,none⟩=some (.int .i64 u.choice):=(Blk.new V 46 u.cells).cell 3;obtain⟨k,hk⟩:∃k,k=decide (u.choice=2):=⟨_,rfl⟩;have e3:(u.choice==2)=k:=by rw[hk];rfl
 rw[←hk];clear hk;go_enter Tryz.func216,Tryz.ntmps216;go_wp2;go_ret;exact⟨rfl,hbw⟩
end
end Go.Proofs.YtadllffeoibelaaGreat
