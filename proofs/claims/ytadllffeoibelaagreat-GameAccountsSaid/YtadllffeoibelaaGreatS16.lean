/-
  Parts of the proof. No condition.
-/
import Derived.Test.YtadllffeoibelaaGreatS15
open Go.Proofs.Tryz
namespace Go.Proofs.YtadllffeoibelaaGreat
set_option maxRecDepth 100000
set_option maxHeartbeats 32000000
set_option linter.all false
section
open Go.RowKit Go.Shelf
attribute [local go_sem ↓] Go.wp_at_zero Go.wp_at_succ Aj Ao Ap Aq
attribute [local go_sem] Ax BB BC BD AK AR AN
def slB(s:Nat)(l:List Vt):List Vt:=l.filter fun x=>decide (x.slot=(s:Int))
theorem Qa{s:Nat}{l:List Vt}{x:Vt}(h:x∈slB s l):x∈l/\x.slot=(s:Int):=by
 have:=List.mem_filter.1 h;exact⟨this.1,by simpa using this.2⟩
theorem Nj{s:Nat}{l:List Vt}{i:Nat}{x:Vt}(hx:l[i]? =some x):slB s (l.take (i+1))=slB s (l.take i)++if decide (x.slot=(s:Int))=true then[x]else[]:=by
 unfold slB;rw[Ai,hx,BX,List.filter_append];simp only[List.filter_cons,List.filter_nil]
theorem VR{s:Nat}{l:List Vt}{i:Nat}{x:Vt}(hx:l[i]? =some x)(h1:x.slot=(s:Int)):slB s (l.take (i+1))=slB s (l.take i)++[x]:=by
 rw[Nj hx,if_pos (by simpa using h1)]
theorem TM{s:Nat}{l:List Vt}{i:Nat}{x:Vt}(hx:l[i]? =some x)(h1:¬x.slot=(s:Int)):slB s (l.take (i+1))=slB s (l.take i):=by
 rw[Nj hx,if_neg (by simpa using h1),List.append_nil]
def YL(l:List Vt)(s:Nat)(w:World)(v iv:Value)(wr:World):Prop:=
 ∃(i:Nat) (D:List Vt),iv= .int .i64 (i:Int)/\i<=l.length/\D.length<=i/\D=slB s (l.take i)/\wr.ownsRow w.heap.size 46 22 v D.length (D.flatMap vtc)/\ZN w wr
theorem Rc(M:Int)(p:Nm)(A:Option Addr)(n c:Nat)(l:List Vt)(s:Nat)(w0:World)(hn:l.length=n)(hr:Rd w0 w0.heap.size A (l.flatMap vtc))(hsm:n<=1000000)(hl:∀v∈l,Ab v)(hs:(xOf M).testBit s=true):Calls prog 277 #[.int .i64 M,p.val,.slice A n c,.int .i64 (s:Int)] w0 fun e w'=>∃(v:Value) (O:List Vt),e= .returned v/\FP M p (s:Int) (slB s l) O/\O.length<=n/\w'.ownsRow w0.heap.size 46 22 v O.length (O.flatMap vtc)/\ZN w0 w':=by
 obtain⟨w,hw⟩:=ZH (w0.alloc (.cells p.cells 24));have hb0:ZN w0 w:=by rw[hw];exact(AC _ _).alloc (AB _) _
 have hBq:Blk w w0.heap.size 24 p.cells:=by rw[hw];exact Blk.new w0 _ _
 obtain⟨q,hq⟩:=ZH w0.heap.size;have HN:=AA hn;have HR:=AA ((hr.below hb0).more hb0.size);have HL:=AA hl;have HS:=AA hs;have HW:=AA hw;rw[<-hq]at hBq;have HBq:=AA hBq;have hqw:q<w.heap.size:=hBq.lt;have HQ:=AA hq;clear hn hr hl hs hw hBq hq;go_enter func277,ntmps277;go_upto_region 1 with fail
 simp only[<-HW.out,<-HQ.out];go_wp2
 go_loopw [9,14] (fun v iv wr=>YL l s w v iv wr) (fun _ iv _=>n-(intOf iv).toNat)
 case atStart=>exact⟨0,[],rfl,Nat.zero_le _,Nat.zero_le _,by simp[slB],⟨by simp,.inl ⟨rfl,rfl⟩⟩,AC _ _⟩
 case round=>
  obtain⟨i,D,rfl,hin,hDi,hD,xA,hbw⟩:=hrel;rw[HN.out]at hin;have HDe:=AA hD;have xK:=AA xA;have hD6:D.length<=1000000:=by omega
  clear hD xA;by_cases hi:i<n
  ·have di:=ZK (show i<n by omega)
   obtain⟨x,hx⟩:∃x,l[i]? =some x:=⟨_,AD (by rw[HN.out];exact hi)⟩;obtain⟨b,o,rfl,hb,xH⟩:=HR.out.cells (by intro e;have:=AY vtc 22 l (Cd l);rw[e,HN.out]at this;simp at this;omega);clear xH;have x1:AJ wr b (o+i*22) 22=some x.cells:=(HR.out.below hbw).voteRow hx;have HXx:=AA hx;clear hx;go_upto_region 5 with(refine AI rfl 46 (.tmp 11) (.tmp 17) rfl wr.heap.size x.cells rfl rfl 46 Bi.cells (Blk.new wr _ _) (by rfl) (by kernel_rfl) (fun u hu=>BO x hu) ?_;intro w4 hB4 hg4 xc)
   have xM:Hid (w4.ownsRow w.heap.size 46 22 u9 D.length (D.flatMap vtc)):=Bb (xK.out.alloc _) hg4 (fun k hk=>by
    injection hk with hk
    subst hk;right;intro e;have:=(xK.out.lt _ e).2;omega)
   have xE:ZN w w4:=(hbw.alloc hbw.size _).grown hg4 (AG hbw.size (by simp)) (ZJ hbw.size);obtain⟨z,hz⟩:=ZH wr.heap.size;rw[<-hz]at hB4 ⊢;have x3:AJ w4 z 0 22=some x.cells:=hB4.row 22 rfl;have x4:w4.cell? ⟨z,1,none⟩=some (.int .i64 x.slot):=hB4.cell 1;clear hB4 hg4 xc x1 hz xK hbw;try go_frame
   by_cases h1:x.slot=(s:Int)
   ·have e1:(x.slot==(s:Int))=true:=by rw[h1];exact beq_self_eq_true _
    have HSl:=AA h1;clear h1;go_wp2_with ((first
     |(refine BS rfl 56 46 (.tmp 23) rfl x.cells rfl underlying56 (by kernel_rfl) (by decide) (by decide) ?_)
     |(at_builtin;refine Ar rfl (.tmp 22) (.tmp 24) _ rfl w.heap.size 46 (.agg Bi.cells) 22 64 underlying56 CG rfl (by decide) u9 D.length (D.flatMap vtc) rfl ?r0 (w4.heap.size+1) (some ⟨w4.heap.size,0,none⟩) 1 1 (vtc x) rfl ?r1 ?r2 ?r3 ?r4 ?r5 ?r6 ?_)))
    case r0=>exact xM.out.alloc _
    case r1=>rfl
    case r2=>exact Rd.mk (by omega) (fun j u hu=>by rw[Nat.zero_add,(Blk.new w4 _ _).cell];simpa using hu)
    case r3=>exact fun u hu=>BO x hu
    case r4=>omega
    case r5=>unfold maxLen;omega
    case r6=>have:=xE.size;simp;omega
    intro v7 w7 xL hg7 xr;have yR:ZN w w7:=BJ (xE.alloc xE.size _) (xM.out.alloc _) hg7;have xU:=AA xL;clear xL hg7 xr x3 x4 xM;go_wp2;go_roundw
    case rel=>
     refine⟨i+1,D++[x],by go_num,by rw[HN.out];omega,by rw[AF];simp;omega,?_,?_,yR⟩
     ·rw[VR HXx.out HSl.out,<-HDe.out]
     ·have h:=xU.out;rw[AF,Af];simpa using h
    case measure=>simp[intOf];omega
   ·have e1:(x.slot==(s:Int))=false:=by simpa using h1
    have HSl:=AA h1;clear h1;go_wp2;go_roundw
    case rel=>exact⟨i+1,D,by go_num,by rw[HN.out];omega,by omega,(by rw[TM HXx.out HSl.out];exact HDe.out),xM.out,xE⟩
    case measure=>simp[intOf];omega
  ·have di:=ZL (show n<=i by omega)
   have hDn:D.length<=n:=by omega
   have yy:D=slB s l:=by
    have h:=HDe.out;rw[AT (by rw[HN.out];omega)]at h;exact h
   obtain⟨A1,c1,hu9,hR1⟩:∃A1 c1,u9= .slice A1 D.length c1/\Rd wr wr.heap.size A1 (D.flatMap vtc):=by
    rcases xK.out.2 with⟨rfl,h0⟩|⟨g,cap,cur,rfl,_⟩
    ·exact⟨none,0,by rw[h0],.inl (AV (by rw[xK.out.1,h0,Nat.zero_mul]))⟩
    ·exact⟨_,cap,rfl,Rd.of_own xK.out⟩
   subst hu9;have hm:∀v∈D,v∈l/\v.slot=(s:Int):=fun v hv=>by rw[yy]at hv;exact Qa hv
   have zj:=AA (KY M p A1 D.length c1 D (s:Int) wr rfl hR1 hD6 (fun v hv=>⟨HL.out v (hm v hv).1,(hm v hv).2⟩) (by simpa using HS.out));have ye:=AA yy;have y1:AJ wr q 0 8=some p.cells:=(HBq.out.below hbw hqw).row 8 rfl;obtain⟨nD,hnD⟩:=ZH D.length;rw[<-hnD]at zj hDn ⊢;clear yy hm hR1 xK hD6 hDi hnD;go_wp2_with fail
   refine zj.out.mono ?_;rintro en w3 ⟨v3,O,rfl,hO,hOn,xD,hb3⟩;have HO:Hid (FP M p (s:Int) (slB s l) O):=by unfold Hid;rw[<-ye.out];exact hO
   have yM:=AA xD;have hOn':O.length<=n:=by omega
   clear hO xD y1 zj;go_wp2;go_ret;have hbb:ZN w0 wr:=hb0.trans (hbw.mono hb0.size);exact⟨v3,O,rfl,HO.out,hOn',BE yM.out hbb.size,hbb.trans (hb3.mono hbb.size)⟩
end
section
open Go.RowKit
theorem Wk:Es prog 24 Nm.val where
 desc:=⟨_,underlying24,fun _ _=>rfl⟩
 check b k w:=LE b 9998 k w
 eq a b w:=ED a b w 9998
 bits k:=GE 9999 _ (by intro v hv;simp at hv;rcases hv with rfl|rfl|rfl|rfl|rfl|rfl|rfl|rfl <;> simp[Instr.sameBits])
theorem JF{o:Oper}{a:Act}(x y:Operand)(ho:o.op= .lookup 288 x y false)(m:Nat)(k:Nm)(hx:a.eval x= .map (some m))(hy:a.eval y=k.val){w:World}{kl:List (Nm×Value)}(h:Bp Nm.val w m kl):(execOp a.eval o).run prog w= .ok (.value ((BQ k kl).getD (.int .i64 0))) w:=by
 have hr:=h.is.look Wk underlying288 (.int .i64 0) (Ge w) k false;unfold execOp;rw[ho];simp only[hx,hy];simp only[Bool.false_eq_true,if_false]at hr;simp[hr,Result.andThen]
theorem Qb{op:Oper}{a:Act}{K:Act->World->Prop}{Q:Exit->Act->World->Prop}(x y:Operand)(ho:op.op= .mapEntry 288 x y)(m:Nat)(k:Nm)(hx:a.eval x= .map (some m))(hy:a.eval y=k.val){w:World}{kl:List (Nm×Value)}(h:Bp Nm.val w m kl)(hK:∀(w':World) (b:Nat) (v:Value) (kl':List (Nm×Value)),LZ Nm.val w' m kl' k b->(∀k',BQ k' kl'=if k'=k then some ((BQ k kl).getD (.int .i64 0))else BQ k' kl)->Upd k (.int .i64 0) kl kl'->kl'.length<=kl.length+1->w.grownBy w' (some m)->w'.heap.size=w.heap.size->K (a.put op.dst (.tuple #[v,goInt (b:Int)])) w'):op.wp prog a w K Q:=by
 obtain⟨w',b,v,kl',hr,h1,h2,h3,h4,h5,h6⟩:=h.entryX Wk underlying288 (.int .i64 0) Ge k;refine CC (w':=w') (.tuple #[v,goInt (b:Int)]) ?_ (hK w' b v kl' h1 h2 h3 h4 h5 h6);unfold execOp;rw[ho];simp only[hx,hy];simp[hr,Result.andThen]
theorem Qc{op:Oper}{a:Act}{K:Act->World->Prop}{Q:Exit->Act->World->Prop}(x y z:Operand)(ho:op.op= .entryStore 288 x y z)(m b:Nat)(k:Nm)(v:Value)(hx:a.eval x= .map (some m))(hy:a.eval y=goInt (b:Int))(hz:a.eval z=v){w:World}{kl:List (Nm×Value)}(h:LZ Nm.val w m kl k b)(hK:∀(w':World) (kl':List (Nm×Value)),kl'=CP k v kl->Bp Nm.val w' m kl'->Upd k v kl kl'->kl'.length=kl.length->w.grownBy w' (some m)->w'.heap.size=w.heap.size->K (a.put op.dst undef) w'):op.wp prog a w K Q:=by
 obtain⟨w',hr,h1,h2,h3,h4,h5⟩:=h.store (P:=prog) 288 v;refine Md (w':=w') ?_ (hK w' _ rfl h1 h2 h3 h4 h5);unfold execOp;rw[ho];simp only[hx,hy,hz];simp[hr,Result.andThen]
end
section
open Go.RowKit Go.Shelf
attribute [local go_sem ↓] Go.wp_at_zero Go.wp_at_succ Aj Ao Ap Aq
attribute [local go_sem] Ax BB BC BD AK AR AN
def pK(kd:Int)(k:Nm)(v:Vt):Bool:=decide (v.kind=kd)&&decide (v.value=k)
def BrB(kd:Int)(O:List Vt)(kl:List (Nm×Value)):Prop:=
 (∀k,(BQ k kl).getD (.int .i64 0)= .int .i64 ((Bx (pK kd k) O:Nat):Int))/\
 (∀q∈kl,∃S:Nat,q.2= .int .i64 (S:Int)/\S<1024/\∀i,S.testBit i=true->(Bx (pK kd q.1) O).testBit i=true)/\kl.length<=O.length
theorem BrB.nil(kd:Int):BrB kd [] []:=⟨fun k=>rfl,fun q h=>(by cases h),AB _⟩
theorem Gf{α:Type}{l:List α}{i:Nat}{x:α}(hx:l[i]? =some x):l.take (i+1)=l.take i++[x]:=by
 rw[Ai,hx,BX]
theorem XP(pr:Vt->Bool)(l:List Vt)(x:Vt)(i:Nat)(h:(Bx pr l).testBit i=true):(Bx pr (l++[x])).testBit i=true:=by
 obtain⟨v,hv,h1,h2⟩:=Ou.1 h;exact Ou.2 ⟨v,BW _ hv,h1,h2⟩
theorem BrB.skip{kd:Int}{O:List Vt}{i:Nat}{x:Vt}{kl:List (Nm×Value)}(h:BrB kd (O.take i) kl)(hx:O[i]? =some x)(hn:¬x.kind=kd):BrB kd (O.take (i+1)) kl:=by
 rw[Gf hx];have e:∀k,Bx (pK kd k) (O.take i++[x])=Bx (pK kd k) (O.take i):=fun k=>by
  rw[Gs,if_neg (by simp[pK,hn])]
 refine⟨fun k=>by rw[e];exact h.1 k,fun q hq=>by rw[e];exact h.2.1 q hq,?_⟩;have:=h.2.2;rw[AF];omega
theorem BrB.step{kd:Int}{O:List Vt}{i:Nat}{x:Vt}{kl kl5 kl6:List (Nm×Value)}{S sn:Nat}{k:Nm}(hkk:k=x.value)(h:BrB kd (O.take i) kl)(hx:O[i]? =some x)(hsn:x.signer=(sn:Int))(hs9:sn<=9)(hK:x.kind=kd)(hS:S=Bx (pK kd k) (O.take i))(yn:S<1024)(h6:kl6=CP k (.int .i64 ((S|||2^sn:Nat):Int)) kl5)(h5:∀k',BQ k' kl5=if k'=k then some ((BQ k kl).getD (.int .i64 0))else BQ k' kl)(hU5:Upd k (.int .i64 0) kl kl5)(hU6:Upd k (.int .i64 ((S|||2^sn:Nat):Int)) kl5 kl6)(hl5:kl5.length<=kl.length+1)(hl6:kl6.length=kl5.length):BrB kd (O.take (i+1)) kl6:=by
 have e:Bx (pK kd k) (O.take i++[x])=S|||2^sn:=by
  rw[Gs,if_pos (by simp[pK,hK,hkk]),<-hS,hsn];rfl
 have e':∀k',¬k'=k->Bx (pK kd k') (O.take i++[x])=Bx (pK kd k') (O.take i):=fun k' hk'=>by
  rw[Gs,if_neg (by simp[pK,hK,<-hkk];exact fun h=>hk' h.symm)]
 rw[Gf hx];refine⟨fun k'=>?_,fun q hq=>?_,?_⟩
 ·rw[h6,Cn];by_cases hk':k'=k
  ·rw[if_pos hk',hk',e];rfl
  ·rw[if_neg hk',h5,if_neg hk',e' k' hk'];exact h.1 k'
 ·rcases hU6 q hq with hq|rfl
  ·rcases hU5 q hq with hq|rfl
   ·obtain⟨S',h1,h2,h3⟩:=h.2.1 q hq;exact⟨S',h1,h2,fun i hi=>XP _ _ _ _ (h3 i hi)⟩
   ·exact⟨0,rfl,by decide,fun i hi=>by simp at hi⟩
  ·refine⟨_,rfl,Gq S sn yn hs9,fun i hi=>?_⟩;rw[e];exact hi
 ·have:=h.2.2;rw[hl6,AF,List.length_singleton];omega
def Qd(M:Int)(p:Nm)(s:Nat)(kd:Int)(l:List Vt)(w:World)(e:Ending)(w':World):Prop:=
 ∃(m:Nat) (O:List Vt) (kl:List (Nm×Value)),e= .returned (.map (some m))/\FP M p (s:Int) (slB s l) O/\O.length<=l.length/\BrB kd O kl/\Bp Nm.val w' m kl/\w.heap.size<=m/\ZN w w'
def XQ(kd:Int)(O:List Vt)(m:Nat)(w:World)(iv:Value)(wr:World):Prop:=
 ∃(i:Nat) (kl:List (Nm×Value)),iv= .int .i64 (i:Int)/\i<=O.length/\BrB kd (O.take i) kl/\Bp Nm.val wr m kl/\w.grownBy wr (some m)
theorem GJ(M:Int)(p:Nm)(A:Option Addr)(n c:Nat)(l:List Vt)(s:Nat)(kd:Int)(w0:World)(hn:l.length=n)(hr:Rd w0 w0.heap.size A (l.flatMap vtc))(hsm:n<=1000000)(hl:∀v∈l,Ab v)(hs:(xOf M).testBit s=true):Calls prog 250 #[.int .i64 M,p.val,.slice A n c,.int .i64 (s:Int),.int .i64 kd] w0 (Qd M p s kd l w0):=by
 obtain⟨w,hw⟩:=ZH (w0.alloc (.cells p.cells 24));have hb0:ZN w0 w:=by rw[hw];exact(AC _ _).alloc (AB _) _
 have hBq:Blk w w0.heap.size 24 p.cells:=by rw[hw];exact Blk.new w0 _ _
 obtain⟨q,hq⟩:=ZH w0.heap.size;obtain⟨m,hm⟩:=ZH w.heap.size;obtain⟨wm,hwm⟩:=ZH (w.alloc (.map #[] 0));have hmp:Bp Nm.val wm m []:=by rw[hwm,hm];exact Bp.new Nm.val w
 have hbm:ZN w wm:=by rw[hwm];exact(AC _ _).alloc (AB _) _
 have hb0m:ZN w0 wm:=hb0.trans (hbm.mono hb0.size);have hmm:m<wm.heap.size:=hmp.is.lt;have hm0:w0.heap.size<=m:=by rw[hm];exact hb0.size
 rw[<-hq]at hBq;have hqw:q<w.heap.size:=hBq.lt;have y1:AJ wm q 0 8=some p.cells:=(hBq.below hbm hqw).row 8 rfl;have HSl:=AA (Rc M p A n c l s wm hn ((hr.below hb0m).more hb0m.size) hsm hl hs);have HN:=AA hn;have HL:=AA hl;have HW:=AA hw;have HWm:=AA hwm;have HQ:=AA hq;have HM:=AA hm;have HMp:=AA hmp;have HM0:=AA hm0;have hmk:∀W:World,(Instr.makeMap 288 none).run prog W= .ok (.map (some W.heap.size)) (W.alloc (.map #[] 0)):=fun W=>rfl
 clear hn hr hl hs hw hBq hq hwm hm hmp hqw hm0;go_enter func250,ntmps250;go_upto_region 1 with fail
 simp only[<-HW.out,<-HQ.out];go_upto_region 2 with fail
 simp only[<-HWm.out,<-HM.out];go_wp2_with fail
 refine HSl.out.mono ?_;rintro en w3 ⟨v3,O,rfl,hO,hOn,xD,hb3⟩;have HO:=AA hO;have hDt:Hid (Bp Nm.val w3 m []):=HMp.out.below hb3 hmm;obtain⟨A3,c3,rfl,hR3⟩:∃A1 c1,v3= .slice A1 O.length c1/\(O.flatMap vtc=[]∨∃g,A1=some ⟨g,0,none⟩/\wm.heap.size<=g/\∃T,Blk w3 g 46 (O.flatMap vtc++T).toArray):=by
  rcases GH xD with⟨rfl,h0,h1⟩|⟨g,cap,T,rfl,h1,h2,_⟩
  ·exact⟨none,0,by rw[h0],.inl h1⟩
  ·exact⟨_,cap,rfl,.inr ⟨g,rfl,h1,T,h2⟩⟩
 obtain⟨nO,hnO⟩:=ZH O.length;rw[<-hnO]at hOn ⊢;have HNO:Hid (O.length=nO):=hnO.symm;have HR3:=AA hR3;clear hO xD hR3 hnO HSl HMp y1;go_wp2
 go_loopw [21] (fun iv wr=>XQ kd O m w3 iv wr) (fun iv _=>nO-(intOf iv).toNat)
 case atStart=>exact⟨0,[],rfl,Nat.zero_le _,BrB.nil kd,hDt.out,Am w3 m⟩
 case round=>
  obtain⟨i2,kl,rfl,hBW,hbr,zh,hgr⟩:=hrel;rw[HNO.out]at hBW;have HBr:=AA hbr;have zE:=AA zh;have HGr:=AA hgr;clear hbr zh hgr;by_cases hi2:i2<nO
  ·have di2:=ZK (show i2<nO by omega)
   obtain⟨x,hx⟩:∃x,O[i2]? =some x:=⟨_,AD (by rw[HNO.out];exact hi2)⟩;obtain⟨g,rfl,hgm,T,hT⟩:∃g,A3=some ⟨g,0,none⟩/\wm.heap.size<=g/\∃T,Blk w3 g 46 (O.flatMap vtc++T).toArray:=by
    rcases HR3.out with h|h
    ·have:=AY vtc 22 O (Cd O);rw[h,HNO.out]at this;simp at this;omega
    ·exact h
   have hTr:Blk wr g 46 (O.flatMap vtc++T).toArray:=hT.kept HGr.out (by intro e;injection e with e;omega);have x1:AJ wr g (i2*22) 22=some x.cells:=B3.vt (T:=T) (w0:=wr) ⟨hTr,Am wr g⟩ hx;have HXi:=AA hx;have HXv:=AA (HO.out.1.2 x (AM hx));have hmw:m<wr.heap.size:=zE.out.is.lt;clear hx hTr hT;go_upto_region 5 with(refine AI rfl 46 (.tmp 13) (.tmp 24) rfl wr.heap.size x.cells rfl rfl 46 Bi.cells (Blk.new wr _ _) (by rfl) (by kernel_rfl) (fun u hu=>BO x hu) ?_;intro w4 hB4 hg4 xc)
   have zR:Hid (w3.grownBy w4 (some m)):=(Bt HGr.out _).andThen hg4 (ZJ (.inl HGr.out.size));have yN:Hid (Bp Nm.val w4 m kl):=(zE.out.alloc _).kept hg4 (by intro e;injection e with e;omega);obtain⟨z,hz⟩:=ZH wr.heap.size;rw[<-hz]at hB4 ⊢;have hzm:z≠m:=by omega
   have hAk:m<w4.heap.size:=yN.out.is.lt;have x4:w4.cell? ⟨z,0,none⟩=some (.int .i64 x.kind):=hB4.cell 0;have HB4:=AA hB4;clear hg4 xc x1 hz zE HGr hmw hB4;try go_frame
   by_cases h1:x.kind=kd
   ·have e1:(x.kind==kd)=true:=by rw[h1];exact beq_self_eq_true _
    have HK:=AA h1;clear h1;obtain⟨sn,zG,hsn⟩:∃sn:Nat,sn<=9/\x.signer=(sn:Int):=by
     obtain⟨hv,_⟩:=HXv.out.2.1;have h9:=hv.2.1;exact⟨x.signer.toNat,by omega,by omega⟩
    obtain⟨k,hk⟩:∃k:Nm,k=x.value:=⟨_,rfl⟩;obtain⟨S,hS⟩:∃S:Nat,S=Bx (pK kd k) (O.take i2):=⟨_,rfl⟩;have yn:S<1024:=by
     rw[hS];refine Gt (fun v hv=>?_);obtain⟨hv,_⟩:=(HO.out.1.2 v (List.mem_of_mem_take hv)).2.1;exact hv.2.1
    have HKk:=AA hk;have HSn:=AA hsn;have HS:=AA hS;have HLk:Hid ((BQ k kl).getD (.int .i64 0)= .int .i64 (S:Int)):=by unfold Hid;rw[hS];exact HBr.out.1 k
    have yG:Hid (∀V,Blk V z 46 x.cells->AJ V z 14 8=some x.value.cells/\V.cell? ⟨z,4,none⟩=some (.int .i64 (sn:Int))):=fun V hV=>⟨x.row_value hV,by rw[<-hsn];exact hV.cell 4⟩
    clear hk hsn hS;go_wp2_with fail
    refine rgD (fun V=>AJ V z 14 8=some x.value.cells/\V.cell? ⟨z,4,none⟩=some (.int .i64 (sn:Int))) (yG.out _ HB4.out.drew) fun _=>?_
    iterate 3 (refine tkA ?_;go_frame)
    refine tkD 33 4 ?_;go_frame;refine tkD 34 5 ?_;go_frame;refine tkV 35 6 (.int .i64 ((2^sn:Nat):Int)) (fun wq _=>IZ (.tmp 34) sn rfl rfl zG wq) ?_;go_frame;refine wpAnyH_ready (rs:=[3,8]) (by kernel_rfl) (by simp) ?_;refine AllReadyH.cons rfl (fun K hK=>?_) (AllReadyH.cons rfl (fun K hK=>?_) AllReadyH.nil)
    ·rw[if_pos (by rfl)];refine CC (.int .i64 (S:Int)) ((JF (.tmp 29) (.tmp 31) rfl m k rfl (by rw[HKk.out];rfl) (w:=w4.drew) (yN.out.below (AC w4.heap.size w4).drew hAk)).trans (by rw[HLk.out])) ?_;refine hK.out _ _ (yG.out _ HB4.out.drew) (fun _=>?_);clear hK K;try go_frame
     refine tkV 36 7 (.int .i64 ((S|||2^sn:Nat):Int)) (fun wq _=>Ia (.tmp 32) (.tmp 35) S sn rfl rfl rfl yn zG wq) ?_;go_frame;refine rd1 8 fun K hK=>?_
     rw[if_pos (by rfl)];refine Qb (.tmp 29) (.tmp 31) rfl m k rfl (by rw[HKk.out];rfl) (w:=w4.drew) (yN.out.below (AC w4.heap.size w4).drew hAk) ?_;intro w5 b5 v5 kl5 hE5 hA5 hU5 hl5 hg5 hs5;have hHE:Hid ((BQ k kl5).getD (.int .i64 0)= .int .i64 (S:Int)):=by(unfold Hid;rw[hA5 k,if_pos rfl,Option.getD_some];exact HLk.out)
     have HA5:=AA hA5;have HU5:=AA hU5;clear hA5 hU5;have HB5:Hid (Blk w5 z 46 x.cells):=(HB4.out.drew).kept hg5 (by intro e;injection e with e;exact hzm e);have HE5:=AA hE5;clear hE5;refine hK.out _ _ (yG.out _ HB5.out) (fun _=>?_);clear hK K;try go_frame
     refine tkD 38 9 ?_;go_frame;refine rd1 10 fun K hK=>?_
     rw[if_pos (by rfl)];refine Qc (.tmp 29) (.tmp 38) (.tmp 36) rfl m b5 k (.int .i64 ((S|||2^sn:Nat):Int)) rfl rfl rfl (w:=w5) HE5.out ?_;intro w6 kl6 hK6 hM6 hU6 hl6 hg6 hs6;have HK6:=AA hK6;have HU6:=AA hU6;clear hK6 hU6;have HB6:Hid (Blk w6 z 46 x.cells):=HB5.out.kept hg6 (by intro e;injection e with e;exact hzm e);have HM6:=AA hM6;clear hM6;refine hK.out _ _ (yG.out _ HB6.out) (fun _=>?_);clear hK K;try go_frame
     refine dnD ?_;have hBb:w3.grownBy w6 (some m):=((Bd zR.out).trans hg5).trans hg6;have hFA:Hid (BrB kd (O.take (i2+1)) kl6):=BrB.step HKk.out HBr.out HXi.out HSn.out zG HK.out HS.out yn HK6.out HA5.out HU5.out HU6.out hl5 hl6;go_wp2_with fail
     go_roundw
     case rel=>exact⟨i2+1,kl6,by go_num,by rw[HNO.out];omega,hFA.out,HM6.out,hBb⟩
     case measure=>simp[intOf];omega
    ·rw[if_pos (by rfl)];refine Qb (.tmp 29) (.tmp 31) rfl m k rfl (by rw[HKk.out];rfl) (w:=w4.drew) (yN.out.below (AC w4.heap.size w4).drew hAk) ?_;intro w5 b5 v5 kl5 hE5 hA5 hU5 hl5 hg5 hs5;have hHE:Hid ((BQ k kl5).getD (.int .i64 0)= .int .i64 (S:Int)):=by(unfold Hid;rw[hA5 k,if_pos rfl,Option.getD_some];exact HLk.out)
     have HA5:=AA hA5;have HU5:=AA hU5;clear hA5 hU5;have HB5:Hid (Blk w5 z 46 x.cells):=(HB4.out.drew).kept hg5 (by intro e;injection e with e;exact hzm e);have HE5:=AA hE5;clear hE5;refine hK.out _ _ (yG.out _ HB5.out) (fun _=>?_);clear hK K;try go_frame
     refine tkD 38 9 ?_;go_frame;refine rd1 3 fun K hK=>?_
     rw[if_pos (by rfl)];refine CC (.int .i64 (S:Int)) ((JF (.tmp 29) (.tmp 31) rfl m k rfl (by rw[HKk.out];rfl) (w:=w5) HE5.out.isB).trans (by rw[hHE.out])) ?_;refine hK.out _ _ (yG.out _ HB5.out) (fun _=>?_);clear hK K;try go_frame
     refine tkV 36 7 (.int .i64 ((S|||2^sn:Nat):Int)) (fun wq _=>Ia (.tmp 32) (.tmp 35) S sn rfl rfl rfl yn zG wq) ?_;go_frame;refine rd1 10 fun K hK=>?_
     rw[if_pos (by rfl)];refine Qc (.tmp 29) (.tmp 38) (.tmp 36) rfl m b5 k (.int .i64 ((S|||2^sn:Nat):Int)) rfl rfl rfl (w:=w5) HE5.out ?_;intro w6 kl6 hK6 hM6 hU6 hl6 hg6 hs6;have HK6:=AA hK6;have HU6:=AA hU6;clear hK6 hU6;have HB6:Hid (Blk w6 z 46 x.cells):=HB5.out.kept hg6 (by intro e;injection e with e;exact hzm e);have HM6:=AA hM6;clear hM6;refine hK.out _ _ (yG.out _ HB6.out) (fun _=>?_);clear hK K;try go_frame
     refine dnD ?_;have hBb:w3.grownBy w6 (some m):=((Bd zR.out).trans hg5).trans hg6;have hFA:Hid (BrB kd (O.take (i2+1)) kl6):=BrB.step HKk.out HBr.out HXi.out HSn.out zG HK.out HS.out yn HK6.out HA5.out HU5.out HU6.out hl5 hl6;go_wp2_with fail
     go_roundw
     case rel=>exact⟨i2+1,kl6,by go_num,by rw[HNO.out];omega,hFA.out,HM6.out,hBb⟩
     case measure=>simp[intOf];omega
   ·have e1:(x.kind==kd)=false:=by simpa using h1
    have HK:=AA h1;clear h1;go_wp2;go_roundw
    case rel=>exact⟨i2+1,kl,by go_num,by rw[HNO.out];omega,HBr.out.skip HXi.out HK.out,yN.out,zR.out⟩
    case measure=>simp[intOf];omega
  ·have di2:=ZL (show nO<=i2 by omega)
   have yY:BrB kd O kl:=by
    have h:=HBr.out;rwa[AT (by rw[HNO.out];omega)]at h
   have yg:=AA yY;clear yY;go_wp2;go_ret;exact⟨m,O,kl,rfl,HO.out,by rw[HNO.out,HN.out];exact hOn,yg.out,zE.out,HM0.out,(hb0m.trans (hb3.mono hb0m.size)).grown HGr.out (AG hb0m.size hb3.size) (ZJ HM0.out)⟩
end
section
open Go.RowKit Go.Shelf Go.Sort
def PR(LF n:Nat):Nat:=if n=0 then 170 else if n=1 then 171 else LF
structure SlK (t e:TypeId)(m ke kS LF:Nat):Prop where
 info:∃i,prog.info? t=some i/\i.desc= .slice e
 packed:prog.packed t=false
 elem:∃ie,prog.info? e=some ie/\ie.size=m/\∀n,2<=n->Lib.swapperK n ie ke=kS
 big:2<kS
 find : prog.funcs.findIdx? (·.name == "internal/reflectlite" ++ ".Swapper$" ++ toString kS) = some LF
 kind:∀w,(Extern.Rtype.kind e).run prog w= .ok ke w
 agg:∀w,(isAgg e).run prog w= .ok true w
 ext:∃gS,∀args W,(callFunc LF args).run prog W=((Extern.ReflectliteSwapper.swap gS args).run prog W).andThen fun v w'=>.ok (.value v) w'
theorem Kb {ie : TypeInfo} {t e : TypeId} {m ke kS LF : Nat} (S : SlK t e m ke kS LF) (h4 : ∀ n,2≤n→Lib.swapperK n ie ke = kS) (n : Nat) : prog.funcs.findIdx? (·.name == "internal/reflectlite" ++ ".Swapper$" ++ toString (Lib.swapperK n ie ke)) = some (PR LF n) := by
 rcases Nat.lt_or_ge n 2 with h|h
 ·rcases Nat.eq_zero_or_pos n with h0|h0
  ·subst h0;kernel_rfl
  ·obtain rfl:n=1:=by omega
   kernel_rfl
 ·rw[h4 n h];unfold PR;rw[if_neg (by omega),if_neg (by omega)];exact S.find
theorem PS{α:Type}[Inhabited α]{F:Nat}{lb:Array Value}{lt:α->α->Bool}{t e:TypeId}{m ke kS LF:Nat}(S:SlK t e m ke kS LF)(c:Be α)(hl:∀x,(c.enc x).length=m)(hm0:0<m)(h1:∀x,∀v∈c.enc x,v.oneCell'=true)(eg:∀args w,(callFunc F args).run prog w= .ok (.enter F args) w)(l:List α)(g n cap:Nat)(w:World)(hle:G9 c e w g l lt F lb)(xm:Blk w g e (l.flatMap c.enc++c.tail).toArray)(hn:l.length=n)(hsm:n<=1000000):Calls prog 116 #[.iface t (.slice (some ⟨g,0,none⟩) n cap),.func (.func F) #[] lb] w fun e' w'=>e'= .returned (.tuple #[])/\BG c e g l w w':=by
 obtain⟨i,hi,hd⟩:=S.info;obtain⟨ie,h2,h3,h4⟩:=S.elem;have xV:BG c e g l w (sliceWorld prog LC t (some ⟨g,0,none⟩) n cap w):=⟨l,((B3.self xm).alloc _).alloc _,List.Perm.refl _⟩;obtain⟨gS,hext⟩:=S.ext;have H9:Lit c.enc m e LF gS:=⟨hext,⟨ie,h2,h3⟩,S.agg,hl,h1⟩;refine Any.sort_Slice_of_pdq JO t e i ie hi hd S.packed h2 ke S.kind (some ⟨g,0,none⟩) n cap (by omega) (PR LF n) (Kb S h4 n) (.func F) #[] lb w (fun w'=>BG c e g l w w') ?_;by_cases h:2<=n
 ·have e1:PR LF n=LF:=by unfold PR;rw[if_neg (by omega),if_neg (by omega)]
  have e2:sliceBound prog e ie ke (some ⟨g,0,none⟩) n cap=#[.slice (some ⟨g,0,none⟩) n cap,typeHandle prog e]:=by unfold sliceBound;rw[h4 n h,if_neg (by have:=S.big;omega)]
  rw[e1,e2];have HS:Srt c e w g n LF F #[.slice (some ⟨g,0,none⟩) n cap,typeHandle prog e] lb lt l:=⟨eg,hle,Jq n cap H9 e w,hn,hsm⟩;exact(J9 HS (RG n cap H9 hm0 e w F lb l hn hsm) n 0 n (Lib.bitLen n) _ xV (Nat.zero_le _) (AB _) (by omega) (by have:=Gc n;omega)).mono fun e' w' h=>⟨h.1,xV.trans h.2⟩
 ·have HS:Srt c e w g n (PR LF n) F (sliceBound prog e ie ke (some ⟨g,0,none⟩) n cap) lb lt l:=⟨eg,hle,fun _ _ _ _ _ _ _ _ h'=>absurd h' h,hn,hsm⟩;exact(J9 HS (fun a b V _ hab hb=>absurd hb (by omega)) n 0 n (Lib.bitLen n) _ xV (Nat.zero_le _) (AB _) (by omega) (by have:=Gc n;omega)).mono fun e' w' h=>⟨h.1,xV.trans h.2⟩
theorem PT{F:Nat}{lb:Array Value}{t e:TypeId}{m ke kS LF:Nat}(S:SlK t e m ke kS LF)(cap:Nat)(w:World):Calls prog 116 #[.iface t (.slice none 0 cap),.func (.func F) #[] lb] w fun e' w'=>e'= .returned (.tuple #[])/\ZN w w':=by
 obtain⟨i,hi,hd⟩:=S.info;obtain⟨ie,h2,h3,h4⟩:=S.elem;refine Any.sort_Slice_of_pdq JO t e i ie hi hd S.packed h2 ke S.kind none 0 cap (by omega) (PR LF 0) (Kb S h4 0) (.func F) #[] lb w (fun w'=>ZN w w') ?_;refine(NR _ _ _ _).mono fun e' w' h=>⟨h.1,?_⟩
 have hb:ZN w (sliceWorld prog LC t none 0 cap w):=((AC _ _).alloc (AB _) _).alloc (by simp) _;exact hb.trans (h.2.mono hb.size)
end
section
open Go.RowKit
attribute [local go_sem ↓] Go.wp_at_zero Go.wp_at_succ Aj Ao Ap Aq
attribute [local go_sem] Ax BB BC BD AK AR AN
theorem KA{u:Value}(k:Nm)(h:u∈nmc k):u.oneCell'=true:=by
 simp at h;rcases h with rfl|rfl|rfl|rfl|rfl|rfl|rfl|rfl <;> rfl
theorem B3.nm{T:List Value}{w0 W:World}{g i:Nat}{l:List Nm}{x:Nm}(h:B3 ⟨nmc,T⟩ 24 w0 g l W)(hx:l[i]? =some x):AJ W g (i*8) 8=some x.cells:=by
 refine Bq (fun j u hu=>?_) rfl;have:=Ek (c:=⟨nmc,T⟩) (m:=8) (fun _=>rfl) h.blk i j x u hx (by simpa using hu);rwa[Nat.zero_add]at this
theorem Re(T:List Value)(B g n c:Nat)(l0:List Nm)(w0:World)(hB:Blk w0 B 75 #[.slice (some ⟨g,0,none⟩) n c])(hne:B≠g)(hn:l0.length=n):G9 ⟨nmc,T⟩ 24 w0 g l0 Dm 276 #[.pointer (some ⟨B,0,none⟩)]:=by
 intro W l i j x y hr hp hx hy;have hi:i<n:=by rw[<-hn,<-hp.length_eq];exact(AE.1 hx).1
 have hj:j<n:=by rw[<-hn,<-hp.length_eq];exact(AE.1 hy).1
 have hc0:W.cell? ⟨B,0,none⟩=some (.slice (some ⟨g,0,none⟩) n c):=(hr.box hB hne).cell 0;have xT:Hid (∀V,ZN W V->V.cell? ⟨B,0,none⟩=some (.slice (some ⟨g,0,none⟩) n c)/\AJ V g (i*8) 8=some x.cells/\AJ V g (j*8) 8=some y.cells):=
  fun V hV=>⟨(hV.cell (p:=⟨B,0,none⟩) (hr.box hB hne).lt).trans hc0,BH (hr.nm hx) hV hr.blk.lt,BH (hr.nm hy) hV hr.blk.lt⟩
 have HL:Hid (∀V,ZN W V->Calls prog 158 #[x.val,y.val] V (Ac V (Dm x y))):=
  fun V hV=>Fb x y V
 obtain⟨r,hrr⟩:=ZH (Dm x y);rw[<-hrr]at HL ⊢;clear hrr hc0 hr hp hx hy hB hn;have hbw:ZN W W:=AC _ _;show Calls prog 276 #[.int .i64 (i:Int),.int .i64 (j:Int),.pointer (some ⟨B,0,none⟩)] W _;go_enter func276,ntmps276;go_upto_region 1 with fail
 refine rgD (fun w'=>w'.cell? ⟨B,0,none⟩=some (.slice (some ⟨g,0,none⟩) n c)/\AJ w' g (i*8) 8=some x.cells/\AJ w' g (j*8) 8=some y.cells) (xT.out _ hbw.drew) fun _=>?_
 iterate 8 (refine tkA ?_;go_frame)
 refine rd1 8 fun K hK=>?_
 go_simp;refine(HL.out _ hbw.drew).mono ?_;rintro en w2 ⟨rfl,hb2⟩;have xB:=hbw.drew.trans (hb2.mono hbw.size);go_wp2_with fail
 refine hK.out _ _ (xT.out _ xB) (fun _=>?_);clear hK K;try go_frame
 refine tkD 5 9 ?_;go_frame;refine dnD ?_;go_wp2;go_ret;exact⟨rfl,xB⟩
instance:Inhabited Nm:=⟨Nm.zero⟩
noncomputable def nmT:TypeInfo:=(prog.info? 75).get (by kernel_rfl)
noncomputable def nmE:TypeInfo:=(prog.info? 24).get (by kernel_rfl)
theorem YM(n:Nat)(h:2<=n):Lib.swapperK n nmE 17=5:=by
 have a:nmE.hasPointers=false:=by kernel_rfl
 have b:nmE.bytes=8:=by kernel_rfl
 have c0:(n==0)=false:=by simp;omega
 have c1:(n==1)=false:=by simp;omega
 unfold Lib.swapperK;rw[a,b,c0,c1];rfl
theorem TN:SlK 75 24 8 17 5 174:=
 ⟨⟨nmT,by kernel_rfl,by kernel_rfl⟩,by kernel_rfl,⟨nmE,by kernel_rfl,by kernel_rfl,YM⟩,by omega,by kernel_rfl,fun _=>by kernel_rfl,fun _=>by kernel_rfl,
  ⟨true,fun args W=>run_callFunc_extern func174 (by kernel_rfl) (by kernel_rfl) (by kernel_rfl) (e:=Extern.ReflectliteSwapper.swap true) (by kernel_rfl) args W⟩⟩
theorem PU(args:Array Value)(W:World):(callFunc 276 args).run prog W= .ok (.enter 276 args) W:=enters_of func276 (by kernel_rfl) rfl args W
def YN(D:List Nm)(w:World)(pb:Nat)(v:Value)(e:Ending)(w3:World):Prop:=
 e= .returned (.tuple #[])/\Blk w3 pb 75 #[v]/\ZN w w3/\∃(l3:List Nm),l3.Perm D/\w3.ownsRow w.heap.size 24 8 v l3.length (l3.flatMap nmc)
theorem XR(w W:World)(pb:Nat)(v:Value)(D:List Nm)(xA:W.ownsRow w.heap.size 24 8 v D.length (D.flatMap nmc))(hb:ZN w W)(hpb:Blk W pb 75 #[v])(hsm:D.length<=1000000):Calls prog 116 #[.iface 75 v,.func (.func 276) #[] #[.pointer (some ⟨pb,0,none⟩)]] W (YN D w pb v):=by
 rcases JE xA with⟨rfl,h0,_⟩|⟨g,cap,T,rfl,hg,xm,zx,hAv,hlen⟩
 ·refine(PT TN 0 W).mono ?_;rintro e w3 ⟨rfl,hb3⟩;have hD:D=[]:=AV h0;subst hD;exact⟨rfl,hpb.below hb3 hpb.lt,hb.trans (hb3.mono hb.size),[],List.Perm.refl _,by simp,.inl ⟨rfl,rfl⟩⟩
 ·have hne:pb≠g:=by
   intro e;subst e;unfold Blk at hpb xm;rw[hpb]at xm;injection xm with hh
   injection hh with _ ht
   exact absurd ht (by decide)
  refine(PS TN ⟨nmc,T⟩ (fun _=>rfl) (by decide) (fun x v hv=>KA x hv) (fun args W=>PU args W) D g D.length cap W (Re T pb g D.length cap D W hpb hne rfl) xm rfl hsm).mono ?_;rintro e w3 ⟨rfl,l3,hr3,hp3⟩;have hl3:=hp3.length_eq;have f3:=AY nmc 8 l3 (Cb l3);have fD:=AY nmc 8 D (Cb D);refine⟨rfl,hr3.box hpb hne,hb.grown hr3.kept hb.size (ZJ hg),l3,hp3,f3,.inr ⟨g,cap,_,by rw[hl3],hg,hr3.blk,by rw[hl3];exact zx,hAv,?_,?_⟩⟩
  ·show(l3.flatMap nmc++T).length=_;rw[AF,f3,<-hlen,fD,hl3]
  ·show(l3.flatMap nmc++T).take (l3.length*8)=_;rw[<-f3,List.take_left]
end
section
open Go.RowKit Go.Shelf
attribute [local go_sem ↓] Go.wp_at_zero Go.wp_at_succ Aj Ao Ap Aq
attribute [local go_sem] Ax BB BC BD AK AR AN
theorem Rng.le'{κ:Type}{enc:κ->Value}{w:World}{m r cnt:Nat}{l:List (κ×Value)}(h:Rng enc w m r l cnt):cnt<=l.length:=by
 obtain⟨es,c,s,c0,seen,_,_,h3,_,_,_,_,h8⟩:=h;rw[h8];unfold leftOf;have h4:=congrArg List.length h3;simp only[AX,Array.length_toList]at h4;rw[<-h4];exact Array.size_filter_le
theorem Rng.ne_row'{κ:Type}{enc:κ->Value}{w:World}{m r cnt base n size:Nat}{e:TypeId}{v:Value}{xs:List Value}{l:List (κ×Value)}(h:Rng enc w m r l cnt)(ho:w.ownsRow base e size v n xs):some m≠v.ownBlock/\some r≠v.ownBlock:=by
 obtain⟨es,c,s,c0,seen,h1,h2,_⟩:=h;rcases ho.2 with⟨rfl,_⟩|⟨g,cap,cur,rfl,_,hh,_⟩
 ·exact⟨by simp[Value.ownBlock],by simp[Value.ownBlock]⟩
 ·refine⟨fun he=>?_,fun he=>?_⟩
  ·have:m=g:=by simpa[Value.ownBlock]using he
   subst this;rw[h1]at hh;cases hh
  ·have:r=g:=by simpa[Value.ownBlock]using he
   subst this;rw[h2]at hh;cases hh
def Mf(kd:Int)(n:Nat)(O:List Vt)(L:List Nm):Prop:=∀k,k∈L↔¬k=Nm.zero/\n<=Aw (Bx (pK kd k) O) 10
def Ho(n:Nat)(L:List Nm)(p:Nm×Value):Prop:=p.1∈L∨p.1=Nm.zero∨∀S:Nat,p.2= .int .i64 (S:Int)->Aw (xOf (S:Int)) 10<n
theorem Ho.snoc{n:Nat}{L:List Nm}{k:Nm}{v:Value}{p:Nm×Value}(h:Ho n L p∨p=(k,v)):Ho n (L++[k]) p:=by
 rcases h with h|rfl
 ·exact h.imp (fun h=>BW _ h) id
 ·exact .inl (Bc _ (AU.2 rfl))
theorem Ho.skip{n:Nat}{L:List Nm}{k:Nm}{S:Nat}{p:Nm×Value}(hq:k=Nm.zero∨Aw (xOf (S:Int)) 10<n)(h:Ho n L p∨p=(k,.int .i64 (S:Int))):Ho n L p:=by
 rcases h with h|rfl
 ·exact h
 ·rcases hq with hq|hq
  ·exact .inr (.inl hq)
  ·refine .inr (.inr (fun S' hS'=>?_));simp only[Value.int.injEq,true_and]at hS';have:S=S':=by omega
   rw[<-this];exact hq
theorem Mf.of{kd:Int}{n:Nat}{O:List Vt}{kl:List (Nm×Value)}{L:List Nm}(hO:∀v∈O,0<=v.signer/\v.signer<=9)(hn:1<=n)(h:BrB kd O kl)(hv:∀p∈kl,Ho n L p)(hL:∀k∈L,¬k=Nm.zero/\n<=Aw (Bx (pK kd k) O) 10):Mf kd n O L:=by
 refine fun k=>⟨hL k,fun⟨h0,hk⟩=>?_⟩
 have hS:=h.1 k;rcases ha:BQ k kl with _|v
 ·rw[ha,Option.getD_none]at hS;simp only[Value.int.injEq,true_and]at hS;have:Bx (pK kd k) O=0:=by omega
  rw[this]at hk;have:Aw 0 10=0:=by decide
  omega
 ·rw[ha,Option.getD_some]at hS;rcases hv (k,v) (FO k v kl ha)with h1|h1|h1
  ·exact h1
  ·exact absurd h1 h0
  ·have:=h1 _ hS;rw[EO _ (Gt hO)]at this;omega
def VT(kd:Int)(n:Nat)(O:List Vt)(w:World)(e:Ending)(w':World):Prop:=
 ∃(v:Value) (L:List Nm),e= .returned v/\Mf kd n O L/\L.length<=O.length/\w'.ownsRow w.heap.size 24 8 v L.length (L.flatMap nmc)/\ZN w w'
def XS(kd:Int)(n:Nat)(O:List Vt)(m r pb:Nat)(kl:List (Nm×Value))(w:World)(wr:World):Prop:=
 ∃(cnt:Nat) (v:Value) (L:List Nm),DK Nm.val wr m r kl cnt (Ho n L)/\Blk wr pb 75 #[v]/\L.length+cnt<=kl.length/\(∀k∈L,¬k=Nm.zero/\n<=Aw (Bx (pK kd k) O) 10)/\wr.ownsRow w.heap.size 24 8 v L.length (L.flatMap nmc)/\ZN w wr
theorem Nk(kd:Int)(n:Nat)(O:List Vt)(m:Nat)(kl:List (Nm×Value))(wb:World)(hO:∀v∈O,0<=v.signer/\v.signer<=9)(hO6:O.length<=1000000)(hn:1<=n)(hbr:BrB kd O kl)(hmp:Bp Nm.val wb m kl):Calls prog 249 #[.map (some m),.int .i64 (n:Int)] wb (VT kd n O wb):=by
 have hkl6:kl.length<=1000000:=by have:=hbr.2.2;omega
 have hklO:=hbr.2.2;have HSz:Hid (∀X W,Calls prog 15 #[.int .i64 X] W fun e w'=>e= .returned (.int .i64 ((Aw (xOf X) 10:Nat):Int))/\w'=W):=fun X W=>Ct X W
 have zP:=AA (fun W W' pb v D h1 h2 h3 h4=>XR W W' pb v D h1 h2 h3 h4);have HOs:=AA hO;have HBr:=AA hbr;have HN1:=AA hn;obtain⟨pb,hpb⟩:=ZH wb.heap.size;obtain⟨w5,hw5⟩:=ZH (wb.alloc (.cells #[.slice none 0 0] 75));have hBp:Blk w5 pb 75 #[.slice none 0 0]:=by rw[hw5,hpb];exact Blk.new wb _ _
 have hAy:Bp Nm.val w5 m kl:=by rw[hw5];exact hmp.alloc _
 have yX:ZN wb w5:=by rw[hw5];exact(AC _ _).alloc (AB _) _
 have hmw:m<wb.heap.size:=hmp.is.lt;have HW5:=AA hw5;have HPb:=AA hpb;have hpw:wb.heap.size<=pb:=by omega
 clear hw5 hpb hO hbr hn hmp;go_enter func249,ntmps249;go_upto_region 2 with fail
 simp only[<-HW5.out,<-HPb.out];obtain⟨r,hr⟩:=ZH w5.heap.size;go_wp2_with (at_range;refine Df _ rfl _ 288 rfl _ _ underlying288 m kl rfl hAy (Ho n []) ?_;intro o6 QF zk)
 have hAz:Blk (w5.alloc o6) pb 75 #[.slice none 0 0]:=hBp.alloc _;have xY:ZN wb (w5.alloc o6):=yX.alloc yX.size _;rw[<-hr]at zk ⊢;have hrw:wb.heap.size<=r:=by rw[hr];exact yX.size
 have hrp:r≠pb:=by have:=hBp.lt;omega
 have hmr:m≠r:=by omega
 have hC0:m≠pb:=by omega
 generalize w5.alloc o6=w6 at*;have zl:=AA zk;have hA7:=AA hAz;clear zk hAz hr hBp hAy yX HW5;go_frame
 go_loopw [10] (fun _ wx=>XS kd n O m r pb kl wb wx) (fun _ wx=>KN m r wx)
 case atStart=>exact⟨QF,_,[],zl.out,hA7.out,by have:=zl.out.rng.le';simpa using this,fun o ho=>(List.not_mem_nil ho).elim,⟨by simp,.inl ⟨rfl,rfl⟩⟩,xY⟩
 case round=>
  obtain⟨cnt,v,L,hrg,hBp,hLc,hL,xA,hbx⟩:=hrel;have HRg:=AA hrg;have HBp:=AA hBp;have HL3:=AA hL;have xK:=AA xA;have y1:wr.cell? ⟨pb,0,none⟩=some v:=hBp.cell 0;have hL6:L.length<=1000000:=by omega
  have hrx:r<wr.heap.size:=hrg.rng.lt;have hpx:pb<wr.heap.size:=hBp.lt;have hmx:m<wr.heap.size:=hrg.rng.mlt;clear hrg hBp hL xA zl hA7;go_wp2_with (at_next;refine Dx _ rfl _ rfl m r cnt kl _ rfl HRg.out ?_ ?_)
  ·intro hA8;have hC1:=AA hA8;clear hA8;have yW:=AA (zP.out wb wr pb v L xK.out hbx HBp.out hL6);clear zP;go_wp2_with fail
   refine yW.out.mono ?_;rintro en w8 ⟨rfl,hB8,hb8,l8,hp8,xf⟩;have z1:w8.cell? ⟨pb,0,none⟩=some v:=hB8.cell 0;have HP8:=AA hp8;have zX:=AA xf;have hll:L.length<=O.length:=by omega
   clear hB8 hp8 xf yW y1;go_wp2;go_ret;have hA:=Mf.of HOs.out HN1.out HBr.out (fun pp hpp=>hC1.out pp.1 pp.2 hpp) HL3.out;exact⟨v,l8,rfl,fun k=>(HP8.out.mem_iff).trans (hA k),by rw[HP8.out.length_eq];exact hll,zX.out,hb8⟩
  ·intro k v1 w1 Fv yZ zZ hBA hg1 hs1 hen;obtain⟨S,hv1,yn,hSb⟩:=HBr.out.2.1 (k,v1) yZ;simp only at hv1 hSb;subst hv1;have HSb:=AA hSb;have hb1:ZN wb w1:=hbx.grown hg1 hbx.size (ZJ hrw);have zy:Hid (Blk w1 pb 75 #[v]):=HBp.out.kept hg1 (by intro e;injection e with e;exact hrp e.symm);have hnr:v.ownBlock≠some r:=fun e=>(HRg.out.rng.ne_row' xK.out).2 e.symm
   have HOwn1E:Hid (w1.ownsRow wb.heap.size 24 8 v L.length (L.flatMap nmc)):=Bb xK.out hg1 (ZJ (.inr hnr));have hC4:=AA zZ;have hr1:r<w1.heap.size:=zZ.rng.lt;have hm1:m<w1.heap.size:=zZ.rng.mlt;have hp1:pb<w1.heap.size:=zy.out.lt;clear yZ zZ hg1 y1 hnr hSb;clear hs1;go_upto_region 5 with fail
   obtain⟨w4,hw4⟩:=ZH (w1.alloc (.cells k.cells 24));rw[<-hw4];have zH:Hid (DK Nm.val w4 m r kl Fv (fun p=>Ho n L p∨p=(k,.int .i64 (S:Int)))):=by unfold Hid;rw[hw4];exact hC4.out.alloc _
   have yd:Hid (Blk w4 pb 75 #[v]):=by unfold Hid;rw[hw4];exact zy.out.alloc _
   have xM:Hid (w4.ownsRow wb.heap.size 24 8 v L.length (L.flatMap nmc)):=by unfold Hid;rw[hw4];exact HOwn1E.out.alloc _
   have hb4:ZN wb w4:=by rw[hw4];exact hb1.alloc hb1.size _
   have hB4:Blk w4 w1.heap.size 24 k.cells:=by rw[hw4];exact Blk.new w1 _ _
   clear hw4;obtain⟨z,hz⟩:=ZH w1.heap.size;rw[<-hz]at hB4 ⊢;have x3:AJ w4 z 0 8=some k.cells:=hB4.row 8 rfl;have y4:w4.cell? ⟨pb,0,none⟩=some v:=yd.out.cell 0;clear hB4 hz hen zy HOwn1E hb1;obtain⟨a,ha⟩:=ZH (Aw (xOf (S:Int)) 10);have hC5:Hid (∀W,Calls prog 15 #[.int .i64 (S:Int)] W fun e w'=>e= .returned (.int .i64 (a:Int))/\w'=W):=fun W=>by rw[ha];exact HSz.out _ W
   have HA:=AA ha;clear ha;try go_frame
   by_cases h0:k=Nm.zero
   ·have e0:∀W,(Op.equalIn 10000 24 (.agg k.cells) (.agg #[.int .u8 0,.int .u8 0,.int .u8 0,.int .u8 0,.int .u8 0,.int .u8 0,.int .u8 0,.int .u8 0])).run prog W= .ok true W:=fun W=>by
     have h:=Jb k W;rwa[decide_eq_true h0]at h
    have H0:=AA h0;clear h0;go_wp2;go_roundw
    case rel=>exact⟨Fv,v,L,zH.out.mono (fun p hp=>Ho.skip (.inl H0.out) hp),yd.out,by omega,HL3.out,xM.out,hb4⟩
    case measure=>rw[zH.out.rng.left_eq,HRg.out.rng.left_eq];exact hBA
   have e0:∀W,(Op.equalIn 10000 24 (.agg k.cells) (.agg #[.int .u8 0,.int .u8 0,.int .u8 0,.int .u8 0,.int .u8 0,.int .u8 0,.int .u8 0,.int .u8 0])).run prog W= .ok false W:=fun W=>by
    have h:=Jb k W;rwa[decide_eq_false h0]at h
   have H0:=AA h0;clear h0;by_cases hq:n<=a
   ·have dq:decide ((n:Int)<=(a:Int))=true:=by simp;omega
    go_wp2_with fail
    refine(hC5.out _).mono ?_;rintro en w5' ⟨rfl,xp⟩;replace xp:=xp.symm;subst xp;have hok:¬k=Nm.zero/\n<=Aw (Bx (pK kd k) O) 10:=⟨H0.out,by
     have h:=EW (a:=S) (b:=Bx (pK kd k) O) (fun i _ hi=>HSb.out i hi) 10 (AB _);have h2:=HA.out;rw[EO S yn]at h2;omega⟩
    have HOk:=AA hok;clear hok;go_wp2_with ((first
     |(refine BS rfl 75 24 (.tmp 25) rfl k.cells rfl underlying75 (by kernel_rfl) (by decide) (by decide) ?_)
     |(at_builtin;refine Ar rfl (.tmp 24) (.tmp 26) _ rfl wb.heap.size 24 (Nm.val ⟨0,0,0,0,0,0,0,0⟩) 8 8 underlying75 DB rfl (by decide) v L.length (L.flatMap nmc) rfl ?r0 (w4.heap.size+1) (some ⟨w4.heap.size,0,none⟩) 1 1 (nmc k) rfl ?r1 ?r2 ?r3 ?r4 ?r5 ?r6 ?_)))
    case r0=>exact xM.out.alloc _
    case r1=>rfl
    case r2=>exact Rd.mk (by omega) (fun j u hu=>by rw[Nat.zero_add,(Blk.new w4 _ _).cell];simpa using hu)
    case r3=>exact fun u hu=>KA k hu
    case r4=>omega
    case r5=>unfold maxLen;omega
    case r6=>have:=hb4.size;simp;omega
    intro v7 w7 xL hg7 xr;have hBC:some pb≠v.ownBlock:=CJ xM.out yd.out (by decide);have hnn:=zH.out.rng.ne_row' xM.out;have zI:Hid (Blk w7 pb 75 #[v]):=(yd.out.alloc _).kept hg7 hBC;have hC6:Hid (DK Nm.val w7 m r kl Fv (fun p=>Ho n L p∨p=(k,.int .i64 (S:Int)))):=(zH.out.alloc _).kept hg7 hnn.1 hnn.2;have hb7:ZN wb w7:=BJ (hb4.alloc hb4.size _) (xM.out.alloc _) hg7;have hBD:some pb≠v7.ownBlock:=CJ xL zI.out (by decide);obtain⟨g7,cap7,rfl⟩:=ownsRow_succ xL;have xU:=AA xL;have HNe:=AA hBD;have y6:w7.cell? ⟨pb,0,none⟩=some v:=zI.out.cell 0;have y7:w7.frozen? ⟨pb,0,none⟩=false:=zI.out.frozen 0;clear xL hg7 xr hBC hnn hBD y4 x3;go_wp2;try go_frame
    have hBE:Hid (DK Nm.val (w7.setCell ⟨pb,0,none⟩ (.slice (some ⟨g7,0,none⟩) (L.length+1) cap7)) m r kl Fv (Ho n (L++[k]))):=(hC6.out.kept (Bl (p:=⟨pb,0,none⟩) (Am w7 pb) rfl _) (by intro e;injection e with e;exact hC0 e) (by intro e;injection e with e;exact hrp e)).mono (fun p hp=>Ho.snoc hp);go_roundw
    case rel=>
     refine⟨Fv,_,L++[k],hBE.out,zI.out.put 0 _,by rw[AF];simp;omega,?_,?_,hb7.setCell hpw _⟩
     ·intro t ht;rcases AP.1 ht with ht|ht
      ·exact HL3.out t ht
      ·rw[AU.1 ht];exact HOk.out
     ·have h:=Bb xU.out (Bl (p:=⟨pb,0,none⟩) (Am w7 pb) rfl (.slice (some ⟨g7,0,none⟩) (L.length+1) cap7)) (ZJ (.inr (fun e=>HNe.out e.symm)));rw[AF,Af];simpa using h
    case measure=>rw[hBE.out.rng.left_eq,HRg.out.rng.left_eq];exact hBA
   ·have dq:decide ((n:Int)<=(a:Int))=false:=by simp;omega
    go_wp2_with fail
    refine(hC5.out _).mono ?_;rintro en w5' ⟨rfl,xp⟩;replace xp:=xp.symm;subst xp;go_wp2;go_roundw
    case rel=>exact⟨Fv,v,L,zH.out.mono (fun p hp=>Ho.skip (.inr (by rw[<-HA.out];omega)) hp),yd.out,by omega,HL3.out,xM.out,hb4⟩
    case measure=>rw[zH.out.rng.left_eq,HRg.out.rng.left_eq];exact hBA
end
section
open Go.RowKit Go.Shelf
attribute [local go_sem ↓] Go.wp_at_zero Go.wp_at_succ Aj Ao Ap Aq Dv
attribute [local go_sem] Ax BB BC BD Fd AK AR AN
theorem Nl{P:Program}{kt:TypeId}{κ:Type}[DecidableEq κ]{enc:κ->Value}{ops:Array Oper}{rest:List Oper}{o:Oper}{a:Act}{w:World}{Q:Exit->Act->World->Prop}(hg:o.guard=none)(t e:TypeId)(mo ko vo:Operand)(ho:o.op= .mapUpdate t mo ko vo)(m:Nat)(k:κ)(v:Value)(l:List (κ×Value))(hm:a.eval mo= .map (some m))(hk:a.eval ko=enc k)(hv:a.eval vo=v)(h:Bp enc w m l)(K':Es P kt enc)(ht:P.underlying t=some (.map kt e))(hK:∀w',Bp enc w' m (CP k v l)->w.grownBy w' (some m)->w'.heap.size=w.heap.size->wpList P ops Q rest (a.put o.dst undef) w'):wpList P ops Q (o::rest) a w:=by
 refine wpList_plain hg fun K hK2=>?_
 obtain⟨w',h1,h2,h3,h4⟩:=h.store K' ht k v (e:=e);unfold Oper.wp execOp;simp only[ho,hm,hk,hv,Sem.run_bind,h1,Result.andThen_ok,Sem.run_pure];exact hK2 _ _ (hK w' h2 h3 h4)
def DF(k r:Int)(O:List Vt)(x:Vl):Prop:=∃v∈O,v.kind=k/\v.round=r/\¬v.choice=2/\GD v=x
def Kc(k r:Int)(O:List Vt)(kl:List (Vl×Value)):Prop:=(∀q∈kl,DF k r O q.1)/\(∀x,DF k r O x->∃u,BQ x kl=some u)/\kl.length<=O.length
theorem Kc.nil(k r:Int):Kc k r [] []:=⟨fun q h=>(by cases h),fun x ⟨v,hv,_⟩=>(by cases hv),AB _⟩
theorem DF.more{k r:Int}{O O':List Vt}{x:Vl}(h:DF k r O x):DF k r (O++O') x:=by
 obtain⟨v,hv,h⟩:=h;exact⟨v,BW _ hv,h⟩
theorem Nn{κ:Type}[DecidableEq κ]{k:κ}{v:Value}{q:κ×Value}:∀{l:List (κ×Value)},q∈CP k v l->q∈l∨q.1=k
 |[],h=>by
  simp[CP]at h;exact .inr (by rw[h])
 |p::l,h=>by
  unfold CP at h;split at h
  ·rename_i hp
   rcases List.mem_cons.1 h with h|h
   ·exact .inr (by rw[h])
   ·exact .inl (List.mem_cons_of_mem _ h)
  ·rcases List.mem_cons.1 h with h|h
   ·exact .inl (by rw[h];exact BF)
   ·rcases Nn h with h|h
    ·exact .inl (List.mem_cons_of_mem _ h)
    ·exact .inr h
theorem Kc.skip{k r:Int}{O:List Vt}{i:Nat}{x:Vt}{kl:List (Vl×Value)}(h:Kc k r (O.take i) kl)(hx:O[i]? =some x)(hn:¬(x.kind=k/\x.round=r/\¬x.choice=2)):Kc k r (O.take (i+1)) kl:=by
 rw[Gf hx];refine⟨fun q hq=>(h.1 q hq).more,fun y ⟨v,hv,h1,h2,h3,h4⟩=>?_,by have:=h.2.2;rw[AF];omega⟩;rcases AP.1 hv with hv|hv
 ·exact h.2.1 y ⟨v,hv,h1,h2,h3,h4⟩
 ·rw[AU.1 hv]at h1 h2 h3;exact absurd ⟨h1,h2,h3⟩ hn
theorem Kc.step{k r:Int}{O:List Vt}{i:Nat}{x:Vt}{kl:List (Vl×Value)}(u:Value)(h:Kc k r (O.take i) kl)(hx:O[i]? =some x)(h1:x.kind=k)(h2:x.round=r)(h3:¬x.choice=2):Kc k r (O.take (i+1)) (CP (GD x) u kl):=by
 rw[Gf hx];refine⟨fun q hq=>?_,fun y ⟨v,hv,g1,g2,g3,g4⟩=>?_,?_⟩
 ·rcases Nn hq with hq|hq
  ·exact(h.1 q hq).more
  ·rw[hq];exact⟨x,Bc _ (AU.2 rfl),h1,h2,h3,rfl⟩
 ·rw[Cn];by_cases hy:y=GD x
  ·exact⟨u,by rw[if_pos hy]⟩
  ·rw[if_neg hy];rcases AP.1 hv with hv|hv
   ·exact h.2.1 y ⟨v,hv,g1,g2,g3,g4⟩
   ·rw[AU.1 hv]at g4;exact absurd g4.symm hy
 ·have:=h.2.2;have:=NM (GD x) u kl;rw[AF,List.length_singleton];omega
def Mg(L:List Vl)(p:Vl×Value):Prop:=p.1∈L
theorem Mg.snoc{L:List Vl}{k:Vl}{v:Value}{p:Vl×Value}(h:Mg L p∨p=(k,v)):Mg (L++[k]) p:=by
 rcases h with h|rfl
 ·exact BW _ h
 ·exact Bc _ (AU.2 rfl)
def VU(k r:Int)(O:List Vt)(w:World)(e:Ending)(w':World):Prop:=
 ∃(v:Value) (L:List Vl),e= .returned v/\(∀x,x∈L↔DF k r O x)/\L.length<=O.length/\w'.ownsRow w.heap.size 258 9 v L.length (L.flatMap vlc)/\ZN w w'
def XT(k r:Int)(O:List Vt)(m:Nat)(w:World)(iv:Value)(wr:World):Prop:=
 ∃(i:Nat) (kl:List (Vl×Value)),iv= .int .i64 (i:Int)/\i<=O.length/\Kc k r (O.take i) kl/\Bp Vl.val wr m kl/\w.grownBy wr (some m)
def XU(m r pb:Nat)(kl:List (Vl×Value))(w:World)(wr:World):Prop:=
 ∃(cnt:Nat) (v:Value) (L:List Vl),DK Vl.val wr m r kl cnt (Mg L)/\Blk wr pb 261 #[v]/\L.length+cnt<=kl.length/\(∀x∈L,∃u,(x,u)∈kl)/\wr.ownsRow w.heap.size 258 9 v L.length (L.flatMap vlc)/\ZN w wr
theorem Kd{w:World}{b:Nat}{M q s f:Int}{p:Nm}{A:Option Addr}{c mo:Nat}{O:List Vt}{ow:Int->Int->Bool}(h:Fh w b M q s f p A c mo O ow)(hsm:O.length<=1000000)(kd rd:Int):Calls prog 210 #[.pointer (some ⟨b,0,none⟩),.int .i64 kd,.int .i64 rd] w (VU kd rd O w):=by
 obtain⟨m,hm⟩:=ZH w.heap.size;obtain⟨wm,hwm⟩:=ZH (w.alloc (.map #[] 0));have hmp:Bp Vl.val wm m []:=by rw[hwm,hm];exact Bp.new Vl.val w
 have hbm:ZN w wm:=by rw[hwm];exact(AC _ _).alloc (AB _) _
 have hV:=h.below hbm;have y1:wm.cell? ⟨b,12,none⟩=some (.slice A O.length c):=hV.blk.cell 12;have HR:=AA h.rd;have hmw:w.heap.size<=m:=by omega
 have HMp:=AA hmp;have HBm:=AA hbm;have HWm:=AA hwm;have HM:=AA hm;have hmk:∀W:World,(Instr.makeMap 290 none).run prog W= .ok (.map (some W.heap.size)) (W.alloc (.map #[] 0)):=fun W=>rfl
 have HOf:=AA (fun x W=>LG x W);have zP:=AA (fun W W' pb v D h1 h2 h3 h4=>XO W W' pb v D h1 h2 h3 h4);obtain⟨n,hn⟩:=ZI O.length;rw[hn]at y1 hsm;have HN:=AA hn;clear h hV hmp hbm hwm hm hn;go_enter func210,ntmps210;go_upto_region 2 with fail
 simp only[<-HWm.out,<-HM.out];go_wp2
 go_loopw [18] (fun iv wr=>XT kd rd O m wm iv wr) (fun iv _=>n-(intOf iv).toNat)
 case atStart=>exact⟨0,[],rfl,Nat.zero_le _,Kc.nil kd rd,HMp.out,Am wm m⟩
 case round=>
  obtain⟨i,kl,rfl,hin,hvb,zh,hgr⟩:=hrel;rw[HN.out]at hin;have HVb:=AA hvb;have zE:=AA zh;have HGr:=AA hgr;have hbw:ZN w wr:=HBm.out.grown hgr HBm.out.size (ZJ hmw);clear hvb zh hgr;by_cases hi:i<n
  ·have di:=ZK (show i<n by omega)
   obtain⟨x,hx⟩:∃x,O[i]? =some x:=⟨_,AD (by rw[HN.out];exact hi)⟩;obtain⟨g0,o,rfl,hb,xH⟩:=HR.out.cells (by intro e;have:=AY vtc 22 O (Cd O);rw[e,HN.out]at this;simp at this;omega);clear xH;have x1:AJ wr g0 (o+i*22) 22=some x.cells:=(HR.out.below hbw).voteRow hx;have HXx:=AA hx;clear hx;go_upto_region 5 with(refine AI rfl 46 (.tmp 9) (.tmp 21) rfl wr.heap.size x.cells rfl rfl 46 Bi.cells (Blk.new wr _ _) (by rfl) (by kernel_rfl) (fun u hu=>BO x hu) ?_;intro w4 hB4 hg4 xc)
   have zR:Hid (wm.grownBy w4 (some m)):=(Bt HGr.out _).andThen hg4 (ZJ (.inl HGr.out.size));have yN:Hid (Bp Vl.val w4 m kl):=(zE.out.alloc _).kept hg4 (by intro e;injection e with e;have:=zE.out.is.lt;omega);obtain⟨z,hz⟩:=ZH wr.heap.size;rw[<-hz]at hB4 ⊢;have x4:AJ w4 z 0 22=some x.cells:=hB4.row 22 rfl;have x5:w4.cell? ⟨z,0,none⟩=some (.int .i64 x.kind):=hB4.cell 0;have x6:w4.cell? ⟨z,2,none⟩=some (.int .i64 x.round):=hB4.cell 2;have x7:w4.cell? ⟨z,3,none⟩=some (.int .i64 x.choice):=hB4.cell 3;have hAk:m<w4.heap.size:=yN.out.is.lt;clear hB4 hg4 xc hz x1 hbw;try go_frame
   by_cases h1:x.kind=kd
   ·have e1:(x.kind==kd)=true:=by rw[h1];exact beq_self_eq_true _
    have H1:=AA h1;clear h1;by_cases h2:x.round=rd
    ·have e2:(x.round==rd)=true:=by rw[h2];exact beq_self_eq_true _
     have H2:=AA h2;clear h2;by_cases h3:x.choice=2
     ·have e3:(x.choice !=2)=false:=by rw[h3];rfl
      have HB':=AA (HVb.out.skip HXx.out (fun hh=>hh.2.2 h3));clear h3;go_wp2;go_roundw
      case rel=>exact⟨i+1,kl,by go_num,by rw[HN.out];omega,HB'.out,yN.out,zR.out⟩
      case measure=>simp[intOf];omega
     ·have e3:(x.choice !=2)=true:=by simpa using h3
      have HB':=AA (HVb.out.step (.int .i64 1) HXx.out H1.out H2.out h3);clear h3;go_wp2_with (first
       |(go_at_call 213;refine(HOf.out _ _).mono ?_;rintro en w5 ⟨rfl,hb5⟩;have hHF:Hid (Bp Vl.val w5 m kl):=yN.out.below hb5 hAk;have HGr5:Hid (wm.grownBy w5 (some m)):=zR.out.trans (Bu hb5);clear hb5)
       |(refine Nl rfl 290 3 (.tmp 37) (.tmp 39) (.const (.int .i64 1)) rfl m (GD x) (.int .i64 1) kl rfl rfl rfl hHF.out Yt underlying290 ?_;intro w6 hM6 hg6 hs6;have HM6:=AA hM6;have HGr6:Hid (wm.grownBy w6 (some m)):=HGr5.out.trans hg6;clear hM6 hg6))
      go_roundw
      case rel=>exact⟨i+1,_,by go_num,by rw[HN.out];omega,HB'.out,HM6.out,HGr6.out⟩
      case measure=>simp[intOf];omega
    ·have e2:(x.round==rd)=false:=by simpa using h2
     have HB':=AA (HVb.out.skip HXx.out (fun hh=>h2 hh.2.1));clear h2;go_wp2;go_roundw
     case rel=>exact⟨i+1,kl,by go_num,by rw[HN.out];omega,HB'.out,yN.out,zR.out⟩
     case measure=>simp[intOf];omega
   ·have e1:(x.kind==kd)=false:=by simpa using h1
    have HB':=AA (HVb.out.skip HXx.out (fun hh=>h1 hh.1));clear h1;go_wp2;go_roundw
    case rel=>exact⟨i+1,kl,by go_num,by rw[HN.out];omega,HB'.out,yN.out,zR.out⟩
    case measure=>simp[intOf];omega
  ·have di:=ZL (show n<=i by omega)
   have yY:Kc kd rd O kl:=by
    have h:=HVb.out;rwa[AT (by rw[HN.out];omega)]at h
   have hkln:kl.length<=n:=by have:=yY.2.2;rw[HN.out]at this;exact this
   have yg:=AA yY;clear yY HVb;obtain⟨pb,hpb⟩:=ZH wr.heap.size;obtain⟨w5,hw5⟩:=ZH (wr.alloc (.cells #[.slice none 0 0] 261));have hBp:Blk w5 pb 261 #[.slice none 0 0]:=by rw[hw5,hpb];exact Blk.new wr _ _
   have hAy:Bp Vl.val w5 m kl:=by rw[hw5];exact zE.out.alloc _
   have yX:ZN w w5:=by rw[hw5];exact hbw.alloc hbw.size _
   have hpw:w.heap.size<=pb:=by rw[hpb];exact hbw.size
   have hC0:m≠pb:=by rw[hpb];have:=zE.out.is.lt;omega
   have HW5:=AA hw5;have HPb:=AA hpb;clear hw5 hpb;go_upto_region 9 with fail
   simp only[<-HW5.out,<-HPb.out];obtain⟨r,hr⟩:=ZH w5.heap.size;go_wp2_with (at_range;refine Df _ rfl _ 290 rfl _ _ underlying290 m kl rfl hAy (Mg []) ?_;intro o6 QF zk)
   have hAz:Blk (w5.alloc o6) pb 261 #[.slice none 0 0]:=hBp.alloc _;have xY:ZN w (w5.alloc o6):=yX.alloc yX.size _;rw[<-hr]at zk ⊢;have hrw:w.heap.size<=r:=by rw[hr];exact yX.size
   have hrp:r≠pb:=by have:=hBp.lt;omega
   generalize w5.alloc o6=w6 at*;have zl:=AA zk;have hA7:=AA hAz;clear zk hAz hr hBp hAy yX HW5 hbw;go_frame
   go_loopw [43] (fun _ wx=>XU m r pb kl w wx) (fun _ wx=>KN m r wx)
   case atStart=>exact⟨QF,_,[],zl.out,hA7.out,by have:=zl.out.rng.le';simpa using this,fun o ho=>(List.not_mem_nil ho).elim,⟨by simp,.inl ⟨rfl,rfl⟩⟩,xY⟩
   case round=>
    obtain⟨cnt,v,L,hrg,hBp,hLc,hL,xA,hbx⟩:=hrel;have HRg:=AA hrg;have HBp:=AA hBp;have HL3:=AA hL;have xK:=AA xA;have y2:wr.cell? ⟨pb,0,none⟩=some v:=hBp.cell 0;have hL6:L.length<=1000000:=by omega
    have hrx:r<wr.heap.size:=hrg.rng.lt;have hpx:pb<wr.heap.size:=hBp.lt;have hmx:m<wr.heap.size:=hrg.rng.mlt;clear hrg hBp hL xA zl hA7;go_wp2_with (at_next;refine Dx _ rfl _ rfl m r cnt kl _ rfl HRg.out ?_ ?_)
    ·intro hA8;have hC1:=AA hA8;clear hA8;have yW:=AA (zP.out w wr pb v L xK.out hbx HBp.out hL6);clear zP;go_wp2_with fail
     refine yW.out.mono ?_;rintro en w8 ⟨rfl,hB8,hb8,l8,hp8,xf⟩;have z1:w8.cell? ⟨pb,0,none⟩=some v:=hB8.cell 0;have HP8:=AA hp8;have zX:=AA xf;have hll:L.length<=O.length:=by rw[HN.out];omega
     clear hB8 hp8 xf yW y2;go_wp2;go_ret;refine⟨v,l8,rfl,fun x=>(HP8.out.mem_iff).trans ⟨fun hx=>?_,fun hx=>?_⟩,by rw[HP8.out.length_eq];exact hll,zX.out,hb8⟩
     ·obtain⟨u,hu⟩:=HL3.out x hx;exact yg.out.1 _ hu
     ·obtain⟨u,hu⟩:=yg.out.2.1 x hx;exact hC1.out x u (FO x u kl hu)
    ·intro k v1 w1 Fv yZ zZ hBA hg1 hs1 hen;have hBd:=AA yZ;have hb1:ZN w w1:=hbx.grown hg1 hbx.size (ZJ hrw);have zy:Hid (Blk w1 pb 261 #[v]):=HBp.out.kept hg1 (by intro e;injection e with e;exact hrp e.symm);have hnr:v.ownBlock≠some r:=fun e=>(HRg.out.rng.ne_row' xK.out).2 e.symm
     have HOwn1E:Hid (w1.ownsRow w.heap.size 258 9 v L.length (L.flatMap vlc)):=Bb xK.out hg1 (ZJ (.inr hnr));have hC4:=AA zZ;clear yZ zZ hg1 y2 hnr;clear hs1;go_upto_region 12 with fail
     obtain⟨w4,hw4⟩:=ZH (w1.alloc (.cells k.cells 258));rw[<-hw4];have zH:Hid (DK Vl.val w4 m r kl Fv (fun p=>Mg L p∨p=(k,v1))):=by unfold Hid;rw[hw4];exact hC4.out.alloc _
     have yd:Hid (Blk w4 pb 261 #[v]):=by unfold Hid;rw[hw4];exact zy.out.alloc _
     have xM:Hid (w4.ownsRow w.heap.size 258 9 v L.length (L.flatMap vlc)):=by unfold Hid;rw[hw4];exact HOwn1E.out.alloc _
     have hb4:ZN w w4:=by rw[hw4];exact hb1.alloc hb1.size _
     have hB4:Blk w4 w1.heap.size 258 k.cells:=by rw[hw4];exact Blk.new w1 _ _
     clear hw4;obtain⟨z,hz⟩:=ZH w1.heap.size;rw[<-hz]at hB4 ⊢;have x3:AJ w4 z 0 9=some k.cells:=hB4.row 9 rfl;have y4:w4.cell? ⟨pb,0,none⟩=some v:=yd.out.cell 0;clear hB4 hz hen zy HOwn1E hb1;try go_frame
     go_wp2_with ((first
      |(refine BS rfl 261 258 (.tmp 48) rfl k.cells rfl underlying261 (by kernel_rfl) (by decide) (by decide) ?_)
      |(at_builtin;refine Ar rfl (.tmp 47) (.tmp 49) _ rfl w.heap.size 258 Vl.zero.val 9 16 underlying261 Wb rfl (by decide) v L.length (L.flatMap vlc) rfl ?r0 (w4.heap.size+1) (some ⟨w4.heap.size,0,none⟩) 1 1 (vlc k) rfl ?r1 ?r2 ?r3 ?r4 ?r5 ?r6 ?_)))
     case r0=>exact xM.out.alloc _
     case r1=>rfl
     case r2=>exact Rd.mk (by omega) (fun j u hu=>by rw[Nat.zero_add,(Blk.new w4 _ _).cell];simpa using hu)
     case r3=>exact fun u hu=>FI k hu
     case r4=>omega
     case r5=>unfold maxLen;omega
     case r6=>have:=hb4.size;simp;omega
     intro v7 w7 xL hg7 xr;have hBC:some pb≠v.ownBlock:=CJ xM.out yd.out (by decide);have hnn:=zH.out.rng.ne_row' xM.out;have zI:Hid (Blk w7 pb 261 #[v]):=(yd.out.alloc _).kept hg7 hBC;have hC6:Hid (DK Vl.val w7 m r kl Fv (fun p=>Mg L p∨p=(k,v1))):=(zH.out.alloc _).kept hg7 hnn.1 hnn.2;have hb7:ZN w w7:=BJ (hb4.alloc hb4.size _) (xM.out.alloc _) hg7;have hBD:some pb≠v7.ownBlock:=CJ xL zI.out (by decide);obtain⟨g7,cap7,rfl⟩:=ownsRow_succ xL;have xU:=AA xL;have HNe:=AA hBD;have y6:w7.cell? ⟨pb,0,none⟩=some v:=zI.out.cell 0;have y7:w7.frozen? ⟨pb,0,none⟩=false:=zI.out.frozen 0;clear xL hg7 xr hBC hnn hBD y4 x3;go_wp2;try go_frame
     have hBE:Hid (DK Vl.val (w7.setCell ⟨pb,0,none⟩ (.slice (some ⟨g7,0,none⟩) (L.length+1) cap7)) m r kl Fv (Mg (L++[k]))):=(hC6.out.kept (Bl (p:=⟨pb,0,none⟩) (Am w7 pb) rfl _) (by intro e;injection e with e;exact hC0 e) (by intro e;injection e with e;exact hrp e)).mono (fun p hp=>Mg.snoc hp);go_roundw
     case rel=>
      refine⟨Fv,_,L++[k],hBE.out,zI.out.put 0 _,by rw[AF];simp;omega,?_,?_,hb7.setCell hpw _⟩
      ·intro t ht;rcases AP.1 ht with ht|ht
       ·exact HL3.out t ht
       ·rw[AU.1 ht];exact⟨v1,hBd.out⟩
      ·have h:=Bb xU.out (Bl (p:=⟨pb,0,none⟩) (Am w7 pb) rfl (.slice (some ⟨g7,0,none⟩) (L.length+1) cap7)) (ZJ (.inr (fun e=>HNe.out e.symm)));rw[AF,Af];simpa using h
     case measure=>rw[hBE.out.rng.left_eq,HRg.out.rng.left_eq];exact hBA
end
section
open Go.RowKit
theorem Li{P:Program}{op:Oper}{a:Act}{w:World}{K:Act->World->Prop}{Q:Exit->Act->World->Prop}(ty:TypeId)(x y:Operand)(ho:op.op= .store ty x y)(g i:Nat)(u:Value)(hx:a.eval x= .pointer (some ⟨g,i,none⟩))(hy:a.eval y=u)(t:TypeId)(cs:Array Value)(hB:Blk w g t cs)(hi:i<cs.size)(hz:(P.info? ty).map (·.size)=some 1)(h1:u.oneCell'=true)(hd:op.dst=none)(h:∀w',w'=w.setCell ⟨g,i,none⟩ u->Blk w' g t (cs.setIfInBounds i u)->w.grownBy w' (some g)->w'.heap.size=w.heap.size->K a w'):op.wp P a w K Q:=by
 obtain⟨ie,hie,hs⟩:=Option.map_eq_some_iff.1 hz;have xN:=Lib.rl_storeVar_one (P:=P) ty ie hie hs ⟨g,i,none⟩ u cs[i] h1 w (by rw[hB.cell,Array.getElem?_eq_getElem hi]) (hB.frozen i);unfold Oper.wp execOp;simp only[ho,hx,hy,Instr.storeAt,Instr.sureAddr,Sem.run_bind,Sem.run_pure,Result.andThen_ok,xN];have hK:=h _ rfl (hB.put i u) (Bl (Am w g) rfl u) (by simp[World.setCell]);have e:a.put op.dst undef=a:=by rw[hd];rfl
 rw[<-e]at hK;exact hK
end
end Go.Proofs.YtadllffeoibelaaGreat
