/-
  What these parts of the proof come to, functions walked and plain laws: BrS2, NmKey, BrG, Pd9. No condition.
-/
import Derived.Test.YtadllffeoibelaaGreatS30
import Derived.Test.YtadllffeoibelaaGreatS12
import Derived.Test.YtadllffeoibelaaGreatS10
import Derived.Test.YtadllffeoibelaaGreatS27
import Derived.Test.YtadllffeoibelaaGreatS6
import Derived.Test.YtadllffeoibelaaGreatS19
namespace Go.Proofs.YtadllffeoibelaaGreat
set_option maxRecDepth 100000
set_option maxHeartbeats 32000000
set_option linter.all false
section
open Go.RowKit Go.Shelf
attribute [local go_sem ↓] Go.wp_at_zero Go.wp_at_succ An Au Av Aw
attribute [local go_sem] BD BH BI BJ AN AW AQ
def slB(s:Nat)(l:List Vt):List Vt:=l.filter fun x=>decide (x.slot=(s:Int))
theorem Nf{s:Nat}{l:List Vt}{x:Vt}(h:x∈slB s l):x∈l∧x.slot=(s:Int):=by
 have:=List.mem_filter.1 h;exact⟨this.1,by simpa using this.2⟩
theorem Lg{s:Nat}{l:List Vt}{i:Nat}{x:Vt}(hx:l[i]? =some x):slB s (l.take (i+1))=slB s (l.take i)++if decide (x.slot=(s:Int))=true then[x]else[]:=by
 unfold slB;rw[Ag,hx,BE,List.filter_append];simp only[List.filter_cons,List.filter_nil]
theorem Rn{s:Nat}{l:List Vt}{i:Nat}{x:Vt}(hx:l[i]? =some x)(h1:x.slot=(s:Int)):slB s (l.take (i+1))=slB s (l.take i)++[x]:=by
 rw[Lg hx,if_pos (by simpa using h1)]
theorem QQ{s:Nat}{l:List Vt}{i:Nat}{x:Vt}(hx:l[i]? =some x)(h1:¬x.slot=(s:Int)):slB s (l.take (i+1))=slB s (l.take i):=by
 rw[Lg hx,if_neg (by simpa using h1),List.append_nil]
def Tx(l:List Vt)(s:Nat)(w:World)(v iv:Value)(wr:World):Prop:=
 ∃(i:Nat) (D:List Vt),iv= .int .i64 (i:Int)∧i≤l.length∧D.length≤i∧D=slB s (l.take i)∧wr.ownsRow w.heap.size 46 22 v D.length (D.flatMap vtc)∧Below w.heap.size w wr
theorem Od(M:Int)(p:Nm)(A:Option Addr)(n c:Nat)(l:List Vt)(s:Nat)(w0:World)(hn:l.length=n)(hr:Rd w0 w0.heap.size A (l.flatMap vtc))(hsm:n≤1000000)(hl:∀v∈l,Ae v)(hs:(xOf M).testBit s=true):Calls Tryz.prog 277 #[.int .i64 M,p.val,.slice A n c,.int .i64 (s:Int)] w0 fun e w'=>∃(v:Value) (O:List Vt),e= .returned v∧Ea M p (s:Int) (slB s l) O∧O.length≤n∧w'.ownsRow w0.heap.size 46 22 v O.length (O.flatMap vtc)∧Below w0.heap.size w0 w':=by
 obtain⟨w,hw⟩:∃wa,wa=w0.alloc (.cells p.cells 24):=⟨_,rfl⟩;have hb0:Below w0.heap.size w0 w:=by rw[hw];exact(AC _ _).alloc (AB _) _
 have hBq:Blk w w0.heap.size 24 p.cells:=by rw[hw];exact Blk.new w0 _ _
 obtain⟨q,hq⟩:∃q,q=w0.heap.size:=⟨_,rfl⟩;have HN:=AA hn;have HR:=AA ((hr.below hb0).more hb0.size);have HL:=AA hl;have HS:=AA hs;have HW:=AA hw;rw[←hq]at hBq;have HBq:=AA hBq;have hqw:q<w.heap.size:=hBq.lt;have HQ:=AA hq;clear hn hr hl hs hw hBq hq;go_enter Tryz.func277,Tryz.ntmps277;go_upto_region 1 with fail
 simp only[←HW.out,←HQ.out];go_wp2
 go_loopw [9,14] (fun v iv wr=>Tx l s w v iv wr) (fun _ iv _=>n-(intOf iv).toNat)
 case atStart=>exact⟨0,[],rfl,Nat.zero_le _,Nat.zero_le _,by simp[slB],⟨by simp,.inl ⟨rfl,rfl⟩⟩,AC _ _⟩
 case round=>
  obtain⟨i,D,rfl,hin,hDi,hD,hown,hbw⟩:=hrel;rw[HN.out]at hin;have HDe:=AA hD;have HOwn:=AA hown;have hD6:D.length≤1000000:=by omega
  clear hD hown;by_cases hi:i<n
  ·have di:decide ((i:Int)<(n:Int))=true:=by simp;omega
   obtain⟨x,hx⟩:∃x,l[i]? =some x:=⟨_,AE (by rw[HN.out];exact hi)⟩;obtain⟨b,o,rfl,hb,hcell⟩:=HR.out.cells (by intro e;have:=AX vtc 22 l (B6 l);rw[e,HN.out]at this;simp at this;omega);clear hcell;have x1:AK wr b (o+i*22) 22=some x.cells:=(HR.out.below hbw).voteRow hx;have HXx:=AA hx;clear hx;go_upto_region 5 with(refine AJ rfl 46 (.tmp 11) (.tmp 17) rfl wr.heap.size x.cells rfl rfl 46 Bk.cells (Blk.new wr _ _) (by rfl) (by kernel_rfl) (fun u hu=>BM x hu) ?_;intro w4 hB4 hg4 hsz4)
   have HOwn4:Hid (w4.ownsRow w.heap.size 46 22 u9 D.length (D.flatMap vtc)):=BZ (HOwn.out.alloc _) hg4 (fun k hk=>by
    injection hk with hk
    subst hk;right;intro e;have:=(HOwn.out.lt _ e).2;omega)
   have hbw4:Below w.heap.size w w4:=(hbw.alloc hbw.size _).grown hg4 (AF hbw.size (by simp)) (fun k hk=>by injection hk with hk;subst hk;exact hbw.size);obtain⟨z,hz⟩:∃z,z=wr.heap.size:=⟨_,rfl⟩;rw[←hz]at hB4 ⊢;have x3:AK w4 z 0 22=some x.cells:=hB4.row 22 rfl;have x4:w4.cell? ⟨z,1,none⟩=some (.int .i64 x.slot):=hB4.cell 1;clear hB4 hg4 hsz4 x1 hz HOwn hbw;try go_frame
   by_cases h1:x.slot=(s:Int)
   ·have e1:(x.slot==(s:Int))=true:=by rw[h1];exact beq_self_eq_true _
    have HSl:=AA h1;clear h1;go_wp2_with ((first
     |(refine BP rfl 56 46 (.tmp 23) rfl x.cells rfl Tryz.underlying56 (by kernel_rfl) (by decide) (by decide) ?_)
     |(at_builtin;refine Aq rfl (.tmp 22) (.tmp 24) _ rfl w.heap.size 46 (.agg Bk.cells) 22 64 Tryz.underlying56 CA rfl (by decide) u9 D.length (D.flatMap vtc) rfl ?r0 (w4.heap.size+1) (some ⟨w4.heap.size,0,none⟩) 1 1 (vtc x) rfl ?r1 ?r2 ?r3 ?r4 ?r5 ?r6 ?_)))
    case r0=>exact HOwn4.out.alloc _
    case r1=>rfl
    case r2=>exact Rd.mk (by omega) (fun j u hu=>by rw[Nat.zero_add,(Blk.new w4 _ _).cell];simpa using hu)
    case r3=>exact fun u hu=>BM x hu
    case r4=>omega
    case r5=>unfold maxLen;omega
    case r6=>have:=hbw4.size;simp;omega
    intro v7 w7 hown7 hg7 hat7;have hbw7:Below w.heap.size w w7:=BL (hbw4.alloc hbw4.size _) (HOwn4.out.alloc _) hg7;have HOwn7:=AA hown7;clear hown7 hg7 hat7 x3 x4 HOwn4;go_wp2;go_roundw
    case rel=>
     refine⟨i+1,D++[x],by go_num,by rw[HN.out];omega,by rw[AI];simp;omega,?_,?_,hbw7⟩
     ·rw[Rn HXx.out HSl.out,←HDe.out]
     ·have h:=HOwn7.out;rw[AI,Ad];simpa using h
    case measure=>simp[intOf];omega
   ·have e1:(x.slot==(s:Int))=false:=by simpa using h1
    have HSl:=AA h1;clear h1;go_wp2;go_roundw
    case rel=>exact⟨i+1,D,by go_num,by rw[HN.out];omega,by omega,(by rw[QQ HXx.out HSl.out];exact HDe.out),HOwn4.out,hbw4⟩
    case measure=>simp[intOf];omega
  ·have di:decide ((i:Int)<(n:Int))=false:=by simp;omega
   have hDn:D.length≤n:=by omega
   have hDall:D=slB s l:=by
    have h:=HDe.out;rw[AT (by rw[HN.out];omega)]at h;exact h
   obtain⟨A1,c1,hu9,hR1⟩:∃A1 c1,u9= .slice A1 D.length c1∧Rd wr wr.heap.size A1 (D.flatMap vtc):=by
    rcases HOwn.out.2 with⟨rfl,h0⟩|⟨g,cap,cur,rfl,_⟩
    ·exact⟨none,0,by rw[h0],.inl (AV (by rw[HOwn.out.1,h0,Nat.zero_mul]))⟩
    ·exact⟨_,cap,rfl,Rd.of_own HOwn.out⟩
   subst hu9;have hm:∀v∈D,v∈l∧v.slot=(s:Int):=fun v hv=>by rw[hDall]at hv;exact Nf hv
   have HAcc:=AA (I3 M p A1 D.length c1 D (s:Int) wr rfl hR1 hD6 (fun v hv=>⟨HL.out v (hm v hv).1,(hm v hv).2⟩) (by simpa using HS.out));have HDall:=AA hDall;have y1:AK wr q 0 8=some p.cells:=(HBq.out.below hbw hqw).row 8 rfl;obtain⟨nD,hnD⟩:∃nD,nD=D.length:=⟨_,rfl⟩;rw[←hnD]at HAcc hDn ⊢;clear hDall hm hR1 HOwn hD6 hDi hnD;go_wp2_with fail
   refine HAcc.out.mono ?_;rintro en w3 ⟨v3,O,rfl,hO,hOn,hown3,hb3⟩;have HO:Hid (Ea M p (s:Int) (slB s l) O):=by unfold Hid;rw[←HDall.out];exact hO
   have HOwn3:=AA hown3;have hOn':O.length≤n:=by omega
   clear hO hown3 y1 HAcc;go_wp2;go_ret;have hbb:Below w0.heap.size w0 wr:=hb0.trans (hbw.mono hb0.size);exact⟨v3,O,rfl,HO.out,hOn',BF HOwn3.out hbb.size,hbb.trans (hb3.mono hbb.size)⟩
end
section
open Go.RowKit
theorem SX:Es Tryz.prog 24 Nm.val where
 desc:=⟨_,Tryz.underlying24,fun _ _=>rfl⟩
 check b k w:=IY b 9998 k w
 eq a b w:=Dz a b w 9998
 bits k:=GT 9999 _ (by intro v hv;simp at hv;rcases hv with rfl|rfl|rfl|rfl|rfl|rfl|rfl|rfl <;> simp[Instr.sameBits])
theorem Hd{o:Oper}{a:Act}(x y:Operand)(ho:o.op= .lookup 288 x y false)(m:Nat)(k:Nm)(hx:a.eval x= .map (some m))(hy:a.eval y=k.val){w:World}{kl:List (Nm×Value)}(h:Bh Nm.val w m kl):(execOp a.eval o).run Tryz.prog w= .ok (.value ((BR k kl).getD (.int .i64 0))) w:=by
 have hr:=h.is.look SX Tryz.underlying288 (.int .i64 0) (Fb w) k false;unfold execOp;rw[ho];simp only[hx,hy];simp only[Bool.false_eq_true,if_false]at hr;simp[hr,Result.andThen]
theorem Ng{op:Oper}{a:Act}{K:Act→World→Prop}{Q:Exit→Act→World→Prop}(x y:Operand)(ho:op.op= .mapEntry 288 x y)(m:Nat)(k:Nm)(hx:a.eval x= .map (some m))(hy:a.eval y=k.val){w:World}{kl:List (Nm×Value)}(h:Bh Nm.val w m kl)(hK:∀(w':World) (b:Nat) (v:Value) (kl':List (Nm×Value)),Il Nm.val w' m kl' k b→(∀k',BR k' kl'=if k'=k then some ((BR k kl).getD (.int .i64 0))else BR k' kl)→Upd k (.int .i64 0) kl kl'→kl'.length≤kl.length+1→w.grownBy w' (some m)→w'.heap.size=w.heap.size→K (a.put op.dst (.tuple #[v,goInt (b:Int)])) w'):op.wp Tryz.prog a w K Q:=by
 obtain⟨w',b,v,kl',hr,h1,h2,h3,h4,h5,h6⟩:=h.entryX SX Tryz.underlying288 (.int .i64 0) Fb k;refine B5 (w':=w') (.tuple #[v,goInt (b:Int)]) ?_ (hK w' b v kl' h1 h2 h3 h4 h5 h6);unfold execOp;rw[ho];simp only[hx,hy];simp[hr,Result.andThen]
theorem Nh{op:Oper}{a:Act}{K:Act→World→Prop}{Q:Exit→Act→World→Prop}(x y z:Operand)(ho:op.op= .entryStore 288 x y z)(m b:Nat)(k:Nm)(v:Value)(hx:a.eval x= .map (some m))(hy:a.eval y=goInt (b:Int))(hz:a.eval z=v){w:World}{kl:List (Nm×Value)}(h:Il Nm.val w m kl k b)(hK:∀(w':World) (kl':List (Nm×Value)),kl'=CJ k v kl→Bh Nm.val w' m kl'→Upd k v kl kl'→kl'.length=kl.length→w.grownBy w' (some m)→w'.heap.size=w.heap.size→K (a.put op.dst undef) w'):op.wp Tryz.prog a w K Q:=by
 obtain⟨w',hr,h1,h2,h3,h4,h5⟩:=h.store (P:=Tryz.prog) 288 v;refine KW (w':=w') ?_ (hK w' _ rfl h1 h2 h3 h4 h5);unfold execOp;rw[ho];simp only[hx,hy,hz];simp[hr,Result.andThen]
end
section
open Go.RowKit Go.Shelf
attribute [local go_sem ↓] Go.wp_at_zero Go.wp_at_succ An Au Av Aw
attribute [local go_sem] BD BH BI BJ AN AW AQ
def pK(kd:Int)(k:Nm)(v:Vt):Bool:=decide (v.kind=kd)&&decide (v.value=k)
def BrB(kd:Int)(O:List Vt)(kl:List (Nm×Value)):Prop:=
 (∀k,(BR k kl).getD (.int .i64 0)= .int .i64 ((Bq (pK kd k) O:Nat):Int))∧
 (∀q∈kl,∃S:Nat,q.2= .int .i64 (S:Int)∧S<1024∧∀i,S.testBit i=true→(Bq (pK kd q.1) O).testBit i=true)∧kl.length≤O.length
theorem BrB.nil(kd:Int):BrB kd [] []:=⟨fun k=>rfl,fun q h=>(by cases h),AB _⟩
theorem Fd{α:Type}{l:List α}{i:Nat}{x:α}(hx:l[i]? =some x):l.take (i+1)=l.take i++[x]:=by
 rw[Ag,hx,BE]
theorem S7(pr:Vt→Bool)(l:List Vt)(x:Vt)(i:Nat)(h:(Bq pr l).testBit i=true):(Bq pr (l++[x])).testBit i=true:=by
 obtain⟨v,hv,h1,h2⟩:=LE.1 h;exact LE.2 ⟨v,BS _ hv,h1,h2⟩
theorem BrB.skip{kd:Int}{O:List Vt}{i:Nat}{x:Vt}{kl:List (Nm×Value)}(h:BrB kd (O.take i) kl)(hx:O[i]? =some x)(hn:¬x.kind=kd):BrB kd (O.take (i+1)) kl:=by
 rw[Fd hx];have e:∀k,Bq (pK kd k) (O.take i++[x])=Bq (pK kd k) (O.take i):=fun k=>by
  rw[FU,if_neg (by simp[pK,hn])]
 refine⟨fun k=>by rw[e];exact h.1 k,fun q hq=>by rw[e];exact h.2.1 q hq,?_⟩;have:=h.2.2;rw[AI];omega
theorem BrB.step{kd:Int}{O:List Vt}{i:Nat}{x:Vt}{kl kl5 kl6:List (Nm×Value)}{S sn:Nat}{k:Nm}(hkk:k=x.value)(h:BrB kd (O.take i) kl)(hx:O[i]? =some x)(hsn:x.signer=(sn:Int))(hs9:sn≤9)(hK:x.kind=kd)(hS:S=Bq (pK kd k) (O.take i))(hS10:S<1024)(h6:kl6=CJ k (.int .i64 ((S|||2^sn:Nat):Int)) kl5)(h5:∀k',BR k' kl5=if k'=k then some ((BR k kl).getD (.int .i64 0))else BR k' kl)(hU5:Upd k (.int .i64 0) kl kl5)(hU6:Upd k (.int .i64 ((S|||2^sn:Nat):Int)) kl5 kl6)(hl5:kl5.length≤kl.length+1)(hl6:kl6.length=kl5.length):BrB kd (O.take (i+1)) kl6:=by
 have e:Bq (pK kd k) (O.take i++[x])=S|||2^sn:=by
  rw[FU,if_pos (by simp[pK,hK,hkk]),←hS,hsn];rfl
 have e':∀k',¬k'=k→Bq (pK kd k') (O.take i++[x])=Bq (pK kd k') (O.take i):=fun k' hk'=>by
  rw[FU,if_neg (by simp[pK,hK,←hkk];exact fun h=>hk' h.symm)]
 rw[Fd hx];refine⟨fun k'=>?_,fun q hq=>?_,?_⟩
 ·rw[h6,Cy];by_cases hk':k'=k
  ·rw[if_pos hk',hk',e];rfl
  ·rw[if_neg hk',h5,if_neg hk',e' k' hk'];exact h.1 k'
 ·rcases hU6 q hq with hq|rfl
  ·rcases hU5 q hq with hq|rfl
   ·obtain⟨S',h1,h2,h3⟩:=h.2.1 q hq;exact⟨S',h1,h2,fun i hi=>S7 _ _ _ _ (h3 i hi)⟩
   ·exact⟨0,rfl,by decide,fun i hi=>by simp at hi⟩
  ·refine⟨_,rfl,IK S sn hS10 hs9,fun i hi=>?_⟩;rw[e];exact hi
 ·have:=h.2.2;rw[hl6,AI,List.length_singleton];omega
def Ni(M:Int)(p:Nm)(s:Nat)(kd:Int)(l:List Vt)(w:World)(e:Ending)(w':World):Prop:=
 ∃(m:Nat) (O:List Vt) (kl:List (Nm×Value)),e= .returned (.map (some m))∧Ea M p (s:Int) (slB s l) O∧O.length≤l.length∧BrB kd O kl∧Bh Nm.val w' m kl∧w.heap.size≤m∧Below w.heap.size w w'
def S8(kd:Int)(O:List Vt)(m:Nat)(w:World)(iv:Value)(wr:World):Prop:=
 ∃(i:Nat) (kl:List (Nm×Value)),iv= .int .i64 (i:Int)∧i≤O.length∧BrB kd (O.take i) kl∧Bh Nm.val wr m kl∧w.grownBy wr (some m)
theorem FG(M:Int)(p:Nm)(A:Option Addr)(n c:Nat)(l:List Vt)(s:Nat)(kd:Int)(w0:World)(hn:l.length=n)(hr:Rd w0 w0.heap.size A (l.flatMap vtc))(hsm:n≤1000000)(hl:∀v∈l,Ae v)(hs:(xOf M).testBit s=true):Calls Tryz.prog 250 #[.int .i64 M,p.val,.slice A n c,.int .i64 (s:Int),.int .i64 kd] w0 (Ni M p s kd l w0):=by
 obtain⟨w,hw⟩:∃wa,wa=w0.alloc (.cells p.cells 24):=⟨_,rfl⟩;have hb0:Below w0.heap.size w0 w:=by rw[hw];exact(AC _ _).alloc (AB _) _
 have hBq:Blk w w0.heap.size 24 p.cells:=by rw[hw];exact Blk.new w0 _ _
 obtain⟨q,hq⟩:∃q,q=w0.heap.size:=⟨_,rfl⟩;obtain⟨m,hm⟩:∃m,m=w.heap.size:=⟨_,rfl⟩;obtain⟨wm,hwm⟩:∃wm,wm=w.alloc (.map #[] 0):=⟨_,rfl⟩;have hmp:Bh Nm.val wm m []:=by rw[hwm,hm];exact Bh.new Nm.val w
 have hbm:Below w.heap.size w wm:=by rw[hwm];exact(AC _ _).alloc (AB _) _
 have hb0m:Below w0.heap.size w0 wm:=hb0.trans (hbm.mono hb0.size);have hmm:m<wm.heap.size:=hmp.is.lt;have hm0:w0.heap.size≤m:=by rw[hm];exact hb0.size
 rw[←hq]at hBq;have hqw:q<w.heap.size:=hBq.lt;have y1:AK wm q 0 8=some p.cells:=(hBq.below hbm hqw).row 8 rfl;have HSl:=AA (Od M p A n c l s wm hn ((hr.below hb0m).more hb0m.size) hsm hl hs);have HN:=AA hn;have HL:=AA hl;have HW:=AA hw;have HWm:=AA hwm;have HQ:=AA hq;have HM:=AA hm;have HMp:=AA hmp;have HM0:=AA hm0;have hmk:∀W:World,(Instr.makeMap 288 none).run Tryz.prog W= .ok (.map (some W.heap.size)) (W.alloc (.map #[] 0)):=fun W=>rfl
 clear hn hr hl hs hw hBq hq hwm hm hmp hqw hm0;go_enter Tryz.func250,Tryz.ntmps250;go_upto_region 1 with fail
 simp only[←HW.out,←HQ.out];go_upto_region 2 with fail
 simp only[←HWm.out,←HM.out];go_wp2_with fail
 refine HSl.out.mono ?_;rintro en w3 ⟨v3,O,rfl,hO,hOn,hown3,hb3⟩;have HO:=AA hO;have HMp3:Hid (Bh Nm.val w3 m []):=HMp.out.below hb3 hmm;obtain⟨A3,c3,rfl,hR3⟩:∃A1 c1,v3= .slice A1 O.length c1∧(O.flatMap vtc=[]∨∃g,A1=some ⟨g,0,none⟩∧wm.heap.size≤g∧∃T,Blk w3 g 46 (O.flatMap vtc++T).toArray):=by
  rcases FD hown3 with⟨rfl,h0,h1⟩|⟨g,cap,T,rfl,h1,h2,_⟩
  ·exact⟨none,0,by rw[h0],.inl h1⟩
  ·exact⟨_,cap,rfl,.inr ⟨g,rfl,h1,T,h2⟩⟩
 obtain⟨nO,hnO⟩:∃nO,nO=O.length:=⟨_,rfl⟩;rw[←hnO]at hOn ⊢;have HNO:Hid (O.length=nO):=hnO.symm;have HR3:=AA hR3;clear hO hown3 hR3 hnO HSl HMp y1;go_wp2
 go_loopw [21] (fun iv wr=>S8 kd O m w3 iv wr) (fun iv _=>nO-(intOf iv).toNat)
 case atStart=>exact⟨0,[],rfl,Nat.zero_le _,BrB.nil kd,HMp3.out,Ai w3 m⟩
 case round=>
  obtain⟨i2,kl,rfl,hin2,hbr,hmap,hgr⟩:=hrel;rw[HNO.out]at hin2;have HBr:=AA hbr;have HMap:=AA hmap;have HGr:=AA hgr;clear hbr hmap hgr;by_cases hi2:i2<nO
  ·have di2:decide ((i2:Int)<(nO:Int))=true:=by simp;omega
   obtain⟨x,hx⟩:∃x,O[i2]? =some x:=⟨_,AE (by rw[HNO.out];exact hi2)⟩;obtain⟨g,rfl,hgm,T,hT⟩:∃g,A3=some ⟨g,0,none⟩∧wm.heap.size≤g∧∃T,Blk w3 g 46 (O.flatMap vtc++T).toArray:=by
    rcases HR3.out with h|h
    ·have:=AX vtc 22 O (B6 O);rw[h,HNO.out]at this;simp at this;omega
    ·exact h
   have hTr:Blk wr g 46 (O.flatMap vtc++T).toArray:=hT.kept HGr.out (by intro e;injection e with e;omega);have x1:AK wr g (i2*22) 22=some x.cells:=Bx.vt (T:=T) (w0:=wr) ⟨hTr,Ai wr g⟩ hx;have HXi:=AA hx;have HXv:=AA (HO.out.1.2 x (AM hx));have hmw:m<wr.heap.size:=HMap.out.is.lt;clear hx hTr hT;go_upto_region 5 with(refine AJ rfl 46 (.tmp 13) (.tmp 24) rfl wr.heap.size x.cells rfl rfl 46 Bk.cells (Blk.new wr _ _) (by rfl) (by kernel_rfl) (fun u hu=>BM x hu) ?_;intro w4 hB4 hg4 hsz4)
   have HGr4:Hid (w3.grownBy w4 (some m)):=(Bl HGr.out _).andThen hg4 (fun k hk=>by injection hk with hk;subst hk;exact .inl HGr.out.size);have HMap4:Hid (Bh Nm.val w4 m kl):=(HMap.out.alloc _).kept hg4 (by intro e;injection e with e;omega);obtain⟨z,hz⟩:∃z,z=wr.heap.size:=⟨_,rfl⟩;rw[←hz]at hB4 ⊢;have hzm:z≠m:=by omega
   have hmw4:m<w4.heap.size:=HMap4.out.is.lt;have x4:w4.cell? ⟨z,0,none⟩=some (.int .i64 x.kind):=hB4.cell 0;have HB4:=AA hB4;clear hg4 hsz4 x1 hz HMap HGr hmw hB4;try go_frame
   by_cases h1:x.kind=kd
   ·have e1:(x.kind==kd)=true:=by rw[h1];exact beq_self_eq_true _
    have HK:=AA h1;clear h1;obtain⟨sn,hsn9,hsn⟩:∃sn:Nat,sn≤9∧x.signer=(sn:Int):=by
     obtain⟨hv,_⟩:=HXv.out.2.1;have h9:=hv.2.1;exact⟨x.signer.toNat,by omega,by omega⟩
    obtain⟨k,hk⟩:∃k:Nm,k=x.value:=⟨_,rfl⟩;obtain⟨S,hS⟩:∃S:Nat,S=Bq (pK kd k) (O.take i2):=⟨_,rfl⟩;have hS10:S<1024:=by
     rw[hS];refine FV (fun v hv=>?_);obtain⟨hv,_⟩:=(HO.out.1.2 v (List.mem_of_mem_take hv)).2.1;exact hv.2.1
    have HKk:=AA hk;have HSn:=AA hsn;have HS:=AA hS;have HLk:Hid ((BR k kl).getD (.int .i64 0)= .int .i64 (S:Int)):=by unfold Hid;rw[hS];exact HBr.out.1 k
    have HCells:Hid (∀V,Blk V z 46 x.cells→AK V z 14 8=some x.value.cells∧V.cell? ⟨z,4,none⟩=some (.int .i64 (sn:Int))):=fun V hV=>⟨x.row_value hV,by rw[←hsn];exact hV.cell 4⟩
    clear hk hsn hS;go_wp2_with fail
    refine rgD (fun V=>AK V z 14 8=some x.value.cells∧V.cell? ⟨z,4,none⟩=some (.int .i64 (sn:Int))) (HCells.out _ HB4.out.drew) fun hHeld=>?_
    refine tkD 29 0 ?_;go_frame;refine tkD 30 1 ?_;go_frame;refine tkD 31 2 ?_;go_frame;refine tkD 33 4 ?_;go_frame;refine tkD 34 5 ?_;go_frame;refine Az (some 35) (i:=6) (v:=(.int .i64 ((2^sn:Nat):Int))) rfl rfl (by kernel_rfl) (by kernel_rfl) (by kernel_rfl) (fun _ _ _ h=>h) (by rfl) (fun wq _=>GW (.tmp 34) sn rfl rfl hsn9 wq) (by assumption) ?_;go_frame;refine wpAnyH_ready (rs:=[3,8]) (by kernel_rfl) (by simp) ?_;refine AllReadyH.cons rfl (fun K hK=>?_) (AllReadyH.cons rfl (fun K hK=>?_) AllReadyH.nil)
    ·rw[if_pos (by rfl)];refine B5 (.int .i64 (S:Int)) ((Hd (.tmp 29) (.tmp 31) rfl m k rfl (by rw[HKk.out];rfl) (w:=w4.drew) (HMap4.out.below (AC w4.heap.size w4).drew hmw4)).trans (by rw[HLk.out])) ?_;refine hK.out _ _ (HCells.out _ HB4.out.drew) (fun hHeld=>?_);clear hK K;try go_frame
     refine Az (some 36) (i:=7) (v:=(.int .i64 ((S|||2^sn:Nat):Int))) rfl rfl (by kernel_rfl) (by kernel_rfl) (by kernel_rfl) (fun _ _ _ h=>h) (by rfl) (fun wq _=>GX (.tmp 32) (.tmp 35) S sn rfl rfl rfl hS10 hsn9 wq) (by assumption) ?_;go_frame;refine rd1 8 fun K hK=>?_
     rw[if_pos (by rfl)];refine Ng (.tmp 29) (.tmp 31) rfl m k rfl (by rw[HKk.out];rfl) (w:=w4.drew) (HMap4.out.below (AC w4.heap.size w4).drew hmw4) ?_;intro w5 b5 v5 kl5 hE5 hA5 hU5 hl5 hg5 hs5;have HLk5:Hid ((BR k kl5).getD (.int .i64 0)= .int .i64 (S:Int)):=by(unfold Hid;rw[hA5 k,if_pos rfl,Option.getD_some];exact HLk.out)
     have HA5:=AA hA5;have HU5:=AA hU5;clear hA5 hU5;have HB5:Hid (Blk w5 z 46 x.cells):=(HB4.out.drew).kept hg5 (by intro e;injection e with e;exact hzm e);have HE5:=AA hE5;clear hE5;refine hK.out _ _ (HCells.out _ HB5.out) (fun hHeld=>?_);clear hK K;try go_frame
     refine tkD 38 9 ?_;go_frame;refine rd1 10 fun K hK=>?_
     rw[if_pos (by rfl)];refine Nh (.tmp 29) (.tmp 38) (.tmp 36) rfl m b5 k (.int .i64 ((S|||2^sn:Nat):Int)) rfl rfl rfl (w:=w5) HE5.out ?_;intro w6 kl6 hK6 hM6 hU6 hl6 hg6 hs6;have HK6:=AA hK6;have HU6:=AA hU6;clear hK6 hU6;have HB6:Hid (Blk w6 z 46 x.cells):=HB5.out.kept hg6 (by intro e;injection e with e;exact hzm e);have HM6:=AA hM6;clear hM6;refine hK.out _ _ (HCells.out _ HB6.out) (fun hHeld=>?_);clear hK K;try go_frame
     refine dnD ?_;have hgr6:w3.grownBy w6 (some m):=((BX HGr4.out).trans hg5).trans hg6;have HBr6:Hid (BrB kd (O.take (i2+1)) kl6):=BrB.step HKk.out HBr.out HXi.out HSn.out hsn9 HK.out HS.out hS10 HK6.out HA5.out HU5.out HU6.out hl5 hl6;go_wp2_with fail
     go_roundw
     case rel=>exact⟨i2+1,kl6,by go_num,by rw[HNO.out];omega,HBr6.out,HM6.out,hgr6⟩
     case measure=>simp[intOf];omega
    ·rw[if_pos (by rfl)];refine Ng (.tmp 29) (.tmp 31) rfl m k rfl (by rw[HKk.out];rfl) (w:=w4.drew) (HMap4.out.below (AC w4.heap.size w4).drew hmw4) ?_;intro w5 b5 v5 kl5 hE5 hA5 hU5 hl5 hg5 hs5;have HLk5:Hid ((BR k kl5).getD (.int .i64 0)= .int .i64 (S:Int)):=by(unfold Hid;rw[hA5 k,if_pos rfl,Option.getD_some];exact HLk.out)
     have HA5:=AA hA5;have HU5:=AA hU5;clear hA5 hU5;have HB5:Hid (Blk w5 z 46 x.cells):=(HB4.out.drew).kept hg5 (by intro e;injection e with e;exact hzm e);have HE5:=AA hE5;clear hE5;refine hK.out _ _ (HCells.out _ HB5.out) (fun hHeld=>?_);clear hK K;try go_frame
     refine tkD 38 9 ?_;go_frame;refine rd1 3 fun K hK=>?_
     rw[if_pos (by rfl)];refine B5 (.int .i64 (S:Int)) ((Hd (.tmp 29) (.tmp 31) rfl m k rfl (by rw[HKk.out];rfl) (w:=w5) HE5.out.isB).trans (by rw[HLk5.out])) ?_;refine hK.out _ _ (HCells.out _ HB5.out) (fun hHeld=>?_);clear hK K;try go_frame
     refine Az (some 36) (i:=7) (v:=(.int .i64 ((S|||2^sn:Nat):Int))) rfl rfl (by kernel_rfl) (by kernel_rfl) (by kernel_rfl) (fun _ _ _ h=>h) (by rfl) (fun wq _=>GX (.tmp 32) (.tmp 35) S sn rfl rfl rfl hS10 hsn9 wq) (by assumption) ?_;go_frame;refine rd1 10 fun K hK=>?_
     rw[if_pos (by rfl)];refine Nh (.tmp 29) (.tmp 38) (.tmp 36) rfl m b5 k (.int .i64 ((S|||2^sn:Nat):Int)) rfl rfl rfl (w:=w5) HE5.out ?_;intro w6 kl6 hK6 hM6 hU6 hl6 hg6 hs6;have HK6:=AA hK6;have HU6:=AA hU6;clear hK6 hU6;have HB6:Hid (Blk w6 z 46 x.cells):=HB5.out.kept hg6 (by intro e;injection e with e;exact hzm e);have HM6:=AA hM6;clear hM6;refine hK.out _ _ (HCells.out _ HB6.out) (fun hHeld=>?_);clear hK K;try go_frame
     refine dnD ?_;have hgr6:w3.grownBy w6 (some m):=((BX HGr4.out).trans hg5).trans hg6;have HBr6:Hid (BrB kd (O.take (i2+1)) kl6):=BrB.step HKk.out HBr.out HXi.out HSn.out hsn9 HK.out HS.out hS10 HK6.out HA5.out HU5.out HU6.out hl5 hl6;go_wp2_with fail
     go_roundw
     case rel=>exact⟨i2+1,kl6,by go_num,by rw[HNO.out];omega,HBr6.out,HM6.out,hgr6⟩
     case measure=>simp[intOf];omega
   ·have e1:(x.kind==kd)=false:=by simpa using h1
    have HK:=AA h1;clear h1;go_wp2;go_roundw
    case rel=>exact⟨i2+1,kl,by go_num,by rw[HNO.out];omega,HBr.out.skip HXi.out HK.out,HMap4.out,HGr4.out⟩
    case measure=>simp[intOf];omega
  ·have di2:decide ((i2:Int)<(nO:Int))=false:=by simp;omega
   have hall:BrB kd O kl:=by
    have h:=HBr.out;rwa[AT (by rw[HNO.out];omega)]at h
   have HAll:=AA hall;clear hall;go_wp2;go_ret;exact⟨m,O,kl,rfl,HO.out,by rw[HNO.out,HN.out];exact hOn,HAll.out,HMap.out,HM0.out,(hb0m.trans (hb3.mono hb0m.size)).grown HGr.out (AF hb0m.size hb3.size) (fun k hk=>by injection hk with hk;subst hk;exact HM0.out)⟩
end
section
open Go.RowKit Go.Shelf Go.Sort
def Mw(LF n:Nat):Nat:=if n=0 then 170 else if n=1 then 171 else LF
structure SlK (t e:TypeId)(m ke kS LF:Nat):Prop where
 info:∃i,Tryz.prog.info? t=some i∧i.desc= .slice e
 packed:Tryz.prog.packed t=false
 elem:∃ie,Tryz.prog.info? e=some ie∧ie.size=m∧∀n,2≤n→Lib.swapperK n ie ke=kS
 big:2<kS
 find : Tryz.prog.funcs.findIdx? (·.name == "internal/reflectlite" ++ ".Swapper$" ++ toString kS) = some LF
 kind:∀w,(Extern.Rtype.kind e).run Tryz.prog w= .ok ke w
 agg:∀w,(isAgg e).run Tryz.prog w= .ok true w
 ext:∃gS,∀args W,(callFunc LF args).run Tryz.prog W=((Extern.ReflectliteSwapper.swap gS args).run Tryz.prog W).andThen fun v w'=>.ok (.value v) w'
theorem I8 {ie : TypeInfo} {t e : TypeId} {m ke kS LF : Nat} (S : SlK t e m ke kS LF) (h4 : ∀ n,2≤n→Lib.swapperK n ie ke = kS) (n : Nat) : Tryz.prog.funcs.findIdx? (·.name == "internal/reflectlite" ++ ".Swapper$" ++ toString (Lib.swapperK n ie ke)) = some (Mw LF n) := by
 rcases Nat.lt_or_ge n 2 with h|h
 ·rcases Nat.eq_zero_or_pos n with h0|h0
  ·subst h0;kernel_rfl
  ·obtain rfl:n=1:=by omega
   kernel_rfl
 ·rw[h4 n h];unfold Mw;rw[if_neg (by omega),if_neg (by omega)];exact S.find
theorem Mx{α:Type}[Inhabited α]{F:Nat}{lb:Array Value}{lt:α→α→Bool}{t e:TypeId}{m ke kS LF:Nat}(S:SlK t e m ke kS LF)(c:Be α)(hl:∀x,(c.enc x).length=m)(hm0:0<m)(h1:∀x,∀v∈c.enc x,v.oneCell'=true)(eg:∀args w,(callFunc F args).run Tryz.prog w= .ok (.enter F args) w)(l:List α)(g n cap:Nat)(w:World)(hle:Fr c e w g l lt F lb)(hblk:Blk w g e (l.flatMap c.enc++c.tail).toArray)(hn:l.length=n)(hsm:n≤1000000):Calls Tryz.prog 116 #[.iface t (.slice (some ⟨g,0,none⟩) n cap),.func (.func F) #[] lb] w fun e' w'=>e'= .returned (.tuple #[])∧BC c e g l w w':=by
 obtain⟨i,hi,hd⟩:=S.info;obtain⟨ie,h2,h3,h4⟩:=S.elem;have hrow:BC c e g l w (sliceWorld Tryz.prog Jb t (some ⟨g,0,none⟩) n cap w):=⟨l,((Bx.self hblk).alloc _).alloc _,List.Perm.refl _⟩;obtain⟨gS,hext⟩:=S.ext;have H9:Lit c.enc m e LF gS:=⟨hext,⟨ie,h2,h3⟩,S.agg,hl,h1⟩;refine Any.sort_Slice_of_pdq Ho t e i ie hi hd S.packed h2 ke S.kind (some ⟨g,0,none⟩) n cap (by omega) (Mw LF n) (I8 S h4 n) (.func F) #[] lb w (fun w'=>BC c e g l w w') ?_;by_cases h:2≤n
 ·have e1:Mw LF n=LF:=by unfold Mw;rw[if_neg (by omega),if_neg (by omega)]
  have e2:sliceBound Tryz.prog e ie ke (some ⟨g,0,none⟩) n cap=#[.slice (some ⟨g,0,none⟩) n cap,typeHandle Tryz.prog e]:=by unfold sliceBound;rw[h4 n h,if_neg (by have:=S.big;omega)]
  rw[e1,e2];have HS:Srt c e w g n LF F #[.slice (some ⟨g,0,none⟩) n cap,typeHandle Tryz.prog e] lb lt l:=⟨eg,hle,IF n cap H9 e w,hn,hsm⟩;exact(IN HS (OH n cap H9 hm0 e w F lb l hn hsm) n 0 n (Lib.bitLen n) _ hrow (Nat.zero_le _) (AB _) (by omega) (by have:=FY n;omega)).mono fun e' w' h=>⟨h.1,hrow.trans h.2⟩
 ·have HS:Srt c e w g n (Mw LF n) F (sliceBound Tryz.prog e ie ke (some ⟨g,0,none⟩) n cap) lb lt l:=⟨eg,hle,fun _ _ _ _ _ _ _ _ h'=>absurd h' h,hn,hsm⟩;exact(IN HS (fun a b V _ hab hb=>absurd hb (by omega)) n 0 n (Lib.bitLen n) _ hrow (Nat.zero_le _) (AB _) (by omega) (by have:=FY n;omega)).mono fun e' w' h=>⟨h.1,hrow.trans h.2⟩
theorem My{F:Nat}{lb:Array Value}{t e:TypeId}{m ke kS LF:Nat}(S:SlK t e m ke kS LF)(cap:Nat)(w:World):Calls Tryz.prog 116 #[.iface t (.slice none 0 cap),.func (.func F) #[] lb] w fun e' w'=>e'= .returned (.tuple #[])∧Below w.heap.size w w':=by
 obtain⟨i,hi,hd⟩:=S.info;obtain⟨ie,h2,h3,h4⟩:=S.elem;refine Any.sort_Slice_of_pdq Ho t e i ie hi hd S.packed h2 ke S.kind none 0 cap (by omega) (Mw LF 0) (I8 S h4 0) (.func F) #[] lb w (fun w'=>Below w.heap.size w w') ?_;refine(LL _ _ _ _).mono fun e' w' h=>⟨h.1,?_⟩
 have hb:Below w.heap.size w (sliceWorld Tryz.prog Jb t none 0 cap w):=((AC _ _).alloc (AB _) _).alloc (by simp) _;exact hb.trans (h.2.mono hb.size)
end
end Go.Proofs.YtadllffeoibelaaGreat
