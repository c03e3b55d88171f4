/-
  Parts of the proof. No condition.
-/
import Derived.Test.YtadllffeoibelaaGreatS16
open Go.Proofs.Tryz
namespace Go.Proofs.YtadllffeoibelaaGreat
set_option maxRecDepth 100000
set_option maxHeartbeats 32000000
set_option linter.all false
section
open Go.RowKit Go.Shelf
attribute [local go_sem ↓] Go.wp_at_zero Go.wp_at_succ Aj Ao Ap Aq Dv
attribute [local go_sem] Ax BB BC BD Fd AK AR AN
theorem TO{α:Type}{l:List α}{i:Nat}{x:α}(hx:l[i]? =some x):l.take (i+1)=l.take i++[x]:=by
 rw[Ai,hx,BX]
def pW(kd rd:Int)(pr:Vt->Bool)(v:Vt):Bool:=decide (v.kind=kd)&&(decide (v.round=rd)&&pr v)
def TP(b:Bool)(v:Vt)(m:Nat):Nat:=if b=true then m|||2^v.signer.toNat else m
theorem Rf:(prog.info? 22).map (·.size)=some 1:=by kernel_rfl
theorem TQ(kd rd:Int)(pr:Vt->Bool)(bk br bf bm g n0 m:Nat)(lb:Array Value)(W0 W:World)(v:Vt)(hk:Blk W bk 3 #[.int .i64 kd])(hr:Blk W br 3 #[.int .i64 rd])(hf:Blk W bf 110 #[.func (.func g) #[] lb])(hm:Blk W bm 22 #[.int .i64 (m:Int)])(yo:m<1024)(hF:B5 n0 W0 g lb pr)(hW:Below n0 W0 W)(hn:n0<=W0.heap.size)(hv:Ab v):Calls prog 253 #[v.val,.pointer (some ⟨bk,0,none⟩),.pointer (some ⟨br,0,none⟩),.pointer (some ⟨bf,0,none⟩),.pointer (some ⟨bm,0,none⟩)] W fun e w'=>e= .returned (.tuple #[])/\Blk w' bm 22 #[.int .i64 ((TP (pW kd rd pr v) v m:Nat):Int)]/\W.grownBy w' (some bm):=by
 obtain⟨w1,hw1⟩:=ZH (W.alloc (.cells v.cells 46));have hb1:ZN W w1:=by rw[hw1];exact(AC _ _).alloc (AB _) _
 obtain⟨z,hz⟩:=ZH W.heap.size;have hx1:Blk w1 z 46 v.cells:=by rw[hw1,hz];exact Blk.new W _ _
 have hk1:=hk.below hb1 hk.lt;have hr1:=hr.below hb1 hr.lt;have hf1:=hf.below hb1 hf.lt;have hm1:=hm.below hb1 hm.lt;have y1:w1.cell? ⟨bk,0,none⟩=some (.int .i64 kd):=hk1.cell 0;have y2:w1.cell? ⟨br,0,none⟩=some (.int .i64 rd):=hr1.cell 0;have y3:w1.cell? ⟨bf,0,none⟩=some (.func (.func g) #[] lb):=hf1.cell 0;have x0:w1.cell? ⟨z,0,none⟩=some (.int .i64 v.kind):=hx1.cell 0;have x2:w1.cell? ⟨z,2,none⟩=some (.int .i64 v.round):=hx1.cell 2;have x9:AJ w1 z 0 22=some v.cells:=hx1.row 22 rfl;have hHG:W.grownBy w1 (some bm):=Bu hb1;have HP:Hid (∀V,ZN w1 V->Calls prog g (#[v.val]++lb) V (Ac V (pr v))):=fun V hV=>hF.tells V (hW.trans ((hb1.trans (hV.mono hb1.size)).mono (AG hn hW.size))) v hv
 have eg:=hF.ent;obtain⟨sn,zG,hsn⟩:∃sn:Nat,sn<=9/\v.signer=(sn:Int):=⟨v.signer.toNat,by have:=hv.2.1;omega,by have:=hv.2.1;omega⟩;have hno:pW kd rd pr v=false->TP (pW kd rd pr v) v m=m:=fun h=>by rw[h];rfl
 have hDv:pW kd rd pr v=true->TP (pW kd rd pr v) v m=m|||2^sn:=fun h=>by rw[h,TP,if_pos rfl,hsn];rfl
 obtain⟨k3,hk3⟩:=ZH (pr v);rw[<-hk3]at HP;obtain⟨t,ht⟩:=ZH (TP (pW kd rd pr v) v m);rw[<-ht]at hno hDv ⊢;have hpw:pW kd rd pr v=(decide (v.kind=kd)&&(decide (v.round=rd)&&k3)):=by rw[hk3];rfl
 rw[hpw]at hno hDv;have HM:=AA hm1;have HX:=AA hx1;have HG:=AA hHG;have HW:=AA hw1;have HZ:=AA hz;have HNo:=AA hno;have hCb:=AA hDv;have HSn:=AA hsn;clear hk hr hf hm hF hW hn hv hw1 hz hx1 hk1 hr1 hf1 hm1 hHG hno hDv ht hk3 hpw hsn;go_enter func253,ntmps253;go_upto_region 1 with fail
 simp only[<-HW.out,<-HZ.out];by_cases h1:v.kind=kd
 ·have e1:(v.kind==kd)=true:=by rw[h1];exact beq_self_eq_true _
  have d1:decide (v.kind=kd)=true:=by simpa using h1
  by_cases h2:v.round=rd
  ·have e2:(v.round==rd)=true:=by rw[h2];exact beq_self_eq_true _
   have d2:decide (v.round=rd)=true:=by simpa using h2
   rw[d1,d2]at HNo hCb;clear h1 h2 d1 d2;go_wp2_with fail
   refine(HP.out _ (AC _ _)).mono ?_;rintro en w2 ⟨rfl,hb2⟩;have HM2:Hid (Blk w2 bm 22 #[.int .i64 (m:Int)]):=HM.out.below hb2 HM.out.lt;have HG2:Hid (W.grownBy w2 (some bm)):=HG.out.trans (Bu hb2);have HZM:Hid (z≠bm):=fun e=>by have h1:=HX.out;have h2:=HM.out;rw[e]at h1;exact absurd (CW h1 h2) (by decide)
   have HS:Hid (∀V,w2.grownBy V (some bm)->V.cell? ⟨z,4,none⟩=some (.int .i64 (sn:Int))):=fun V hV=>by rw[<-HSn.out];exact((HX.out.below hb2 HX.out.lt).kept hV (fun e=>by injection e with e;exact HZM.out e)).cell 4
   have HX2:Hid (Blk w2 z 46 v.cells):=HX.out.below hb2 HX.out.lt;cases k3 with
   |false=>
    have ht:=HNo.out rfl;subst ht;clear HNo hCb HS hb2 y1 y2 y3 x0 x2 x9;go_wp2;go_end0;exact⟨rfl,HM2.out,HG2.out⟩
   |true=>
    have ht:=hCb.out rfl;subst ht;clear HNo hCb hb2 y1 y2 y3 x0 x2 x9;have ym:w2.drew.cell? ⟨bm,0,none⟩=some (.int .i64 (m:Int)):=HM2.out.drew.cell 0;go_wp2_with fail
    refine rgD (fun V=>V.cell? ⟨z,4,none⟩=some (.int .i64 (sn:Int))) (HS.out _ (Bd (Am w2 bm))) fun _=>?_
    refine tkD 22 1 ?_;go_frame;refine tkD 23 2 ?_;go_frame;refine tkV 24 3 (.int .i64 ((2^sn:Nat):Int)) (fun wq _=>IZ (.tmp 23) sn rfl rfl zG wq) ?_;go_frame;refine rd1 0 fun K hK=>?_
    go_simp;refine hK.out _ _ (HS.out _ (Bd (Am w2 bm))) (fun _=>?_);clear hK K;try go_frame
    refine tkV 25 4 (.int .i64 ((m|||2^sn:Nat):Int)) (fun wq _=>Ia (.tmp 21) (.tmp 24) m sn rfl rfl rfl yo zG wq) ?_;go_frame;refine rd1 5 fun K hK=>?_
    rw[if_pos (by rfl)];refine Li 22 (.tmp 4) (.tmp 25) (by rfl) bm 0 (.int .i64 ((m|||2^sn:Nat):Int)) (by rfl) (by rfl) 22 _ (HM2.out.drew) (by simp) Rf (by rfl) (by rfl) ?_;intro w5 hw5 hR5 hg5 yp;refine hK.out _ _ (HS.out _ ((Bd (Am w2 bm)).trans hg5)) (fun _=>?_);clear hK K;try go_frame
    refine dnD ?_;go_wp2_with fail
    go_end0;exact⟨rfl,hR5,(Bd HG2.out).trans hg5⟩
  ·have e2:(v.round==rd)=false:=by simpa using h2
   have d2:decide (v.round=rd)=false:=by simpa using h2
   rw[d1,d2]at HNo;have ht:=HNo.out rfl;subst ht;clear h1 h2 d1 d2 HNo hCb;go_wp2;go_end0;exact⟨rfl,HM.out,HG.out⟩
 ·have e1:(v.kind==kd)=false:=by simpa using h1
  have d1:decide (v.kind=kd)=false:=by simpa using h1
  rw[d1]at HNo;have ht:=HNo.out rfl;subst ht;clear h1 d1 HNo hCb;go_wp2;go_end0;exact⟨rfl,HM.out,HG.out⟩
def XV(kd rd:Int)(pr:Vt->Bool)(O:List Vt)(bm:Nat)(w:World)(iv:Value)(wr:World):Prop:=
 ∃i:Nat,iv= .int .i64 (i:Int)/\i<=O.length/\Blk wr bm 22 #[.int .i64 ((Bx (pW kd rd pr) (O.take i):Nat):Int)]/\w.grownBy wr (some bm)
theorem Qe{w:World}{b:Nat}{M q s f:Int}{p:Nm}{A:Option Addr}{c mo:Nat}{O:List Vt}{ow:Int->Int->Bool}(h:Fh w b M q s f p A c mo O ow)(hO:∀v∈O,Ab v)(hsm:O.length<=1000000)(kd rd:Int)(pr:Vt->Bool)(g:Nat)(lb:Array Value)(hF:B5 w.heap.size w g lb pr):Calls prog 211 #[.pointer (some ⟨b,0,none⟩),.int .i64 kd,.int .i64 rd,.func (.func g) #[] lb] w fun e w'=>e= .returned (.int .i64 ((Bx (pW kd rd pr) O:Nat):Int))/\ZN w w':=by
 obtain⟨w1,hw1⟩:=ZH (w.alloc (.cells #[.int .i64 kd] 3));obtain⟨w2,hw2⟩:=ZH (w1.alloc (.cells #[.int .i64 rd] 3));obtain⟨w3,hw3⟩:=ZH (w2.alloc (.cells #[.func (.func g) #[] lb] 110));obtain⟨w4,hw4⟩:=ZH (w3.alloc (.cells #[.int .i64 0] 22));have hs1:w1.heap.size=w.heap.size+1:=by rw[hw1];simp
 have hs2:w2.heap.size=w.heap.size+1+1:=by rw[hw2,World.size_alloc,hs1]
 have hs3:w3.heap.size=w.heap.size+1+1+1:=by rw[hw3,World.size_alloc,hs2]
 have hb1:ZN w w1:=by rw[hw1];exact(AC _ _).alloc (AB _) _
 have hb2:ZN w w2:=by rw[hw2];exact hb1.alloc hb1.size _
 have hb3:ZN w w3:=by rw[hw3];exact hb2.alloc hb2.size _
 have hb4:ZN w w4:=by rw[hw4];exact hb3.alloc hb3.size _
 obtain⟨bk,hbk⟩:=ZH w.heap.size;obtain⟨br,hbr⟩:=ZH (w.heap.size+1);obtain⟨bf,hbf⟩:=ZH (w.heap.size+1+1);obtain⟨bm,hbm⟩:=ZH w3.heap.size;have k4:Blk w4 bk 3 #[.int .i64 kd]:=by rw[hw4,hw3,hw2,hw1,hbk];exact(((Blk.new w _ _).alloc _).alloc _).alloc _
 have r4:Blk w4 br 3 #[.int .i64 rd]:=by rw[hw4,hw3,hw2,hbr,<-hs1];exact((Blk.new w1 _ _).alloc _).alloc _
 have f4:Blk w4 bf 110 #[.func (.func g) #[] lb]:=by rw[hw4,hw3,hbf,<-hs2];exact(Blk.new w2 _ _).alloc _
 have m4:Blk w4 bm 22 #[.int .i64 0]:=by rw[hw4,hbm];exact Blk.new w3 _ _
 have hV4:=h.below hb4;have y1:w4.cell? ⟨b,12,none⟩=some (.slice A O.length c):=hV4.blk.cell 12;have hmw:w.heap.size<=bm:=by omega
 have hkm:bk≠bm:=by omega
 have hrm:br≠bm:=by omega
 have hfm:bf≠bm:=by omega
 have HR:=AA (h.rd);have HO:=AA hO;have HK:=AA k4;have HRr:=AA r4;have HFb:=AA f4;have HM4:=AA m4;have HB4:=AA hb4;have HW1:=AA hw1;have HW2:=AA hw2;have HW3:=AA hw3;have HW4:=AA hw4;have HBk:=AA hbk;have HBr:=AA hbr;have HBf:=AA hbf;have HBm:=AA hbm;have HF:=AA hF;have ent:∀args W,(callFunc 253 args).run prog W= .ok (.enter 253 args) W:=enters_of func253 (by kernel_rfl) rfl;obtain⟨n,hn⟩:=ZI O.length;rw[hn]at y1 hsm;have HN:=AA hn;clear h hV4 hO hF k4 r4 f4 m4 hb1 hb2 hb3 hb4 hw1 hw2 hw3 hw4 hbk hbr hbf hbm hs1 hs2 hs3 hn;go_enter func211,ntmps211;go_upto_region 1 with fail
 simp only[<-HW1.out,<-HW2.out,<-HW3.out,<-HBf.out];simp only[<-HBr.out];go_upto_region 2 with fail
 simp only[<-HW4.out,<-HBm.out];simp only[<-HBk.out];go_wp2
 go_loopw [19] (fun iv wr=>XV kd rd pr O bm w4 iv wr) (fun iv _=>n-(intOf iv).toNat)
 case atStart=>exact⟨0,rfl,Nat.zero_le _,HM4.out,Am w4 bm⟩
 case round=>
  obtain⟨i,rfl,hin,hbm,hgr⟩:=hrel;rw[HN.out]at hin;obtain⟨m,hm⟩:=ZH (Bx (pW kd rd pr) (O.take i));rw[<-hm]at hbm;have yo:m<1024:=by
   rw[hm];exact Gt (fun v hv=>(HO.out v (List.mem_of_mem_take hv)).2.1)
  have HMm:=AA hm;have HBm:=AA hbm;have HGr:=AA hgr;clear hm hbm hgr;by_cases hi:i<n
  ·have di:=ZK (show i<n by omega)
   obtain⟨x,hx⟩:∃x,O[i]? =some x:=⟨_,AD (by rw[HN.out];exact hi)⟩;have hbw:ZN w wr:=HB4.out.grown HGr.out HB4.out.size (ZJ hmw);obtain⟨g0,o,rfl,hb,xH⟩:=HR.out.cells (by intro e;have:=AY vtc 22 O (Cd O);rw[e,HN.out]at this;simp at this;omega);clear xH;have x1:AJ wr g0 (o+i*22) 22=some x.cells:=(HR.out.below hbw).voteRow hx;have HXx:=AA hx;have HXv:=AA (HO.out x (AM hx));clear hx;go_upto_region 6 with(refine AI rfl 46 (.tmp 12) (.tmp 22) rfl wr.heap.size x.cells rfl rfl 46 Bi.cells (Blk.new wr _ _) (by rfl) (by kernel_rfl) (fun u hu=>BO x hu) ?_;intro w5 hB5 hg5 yp)
   have hbm5:wr.heap.size≠bm:=by have:=HBm.out.lt;omega
   have HM5:Hid (Blk w5 bm 22 #[.int .i64 (m:Int)]):=(HBm.out.alloc _).kept hg5 (by intro e;injection e with e;omega);have HG5:Hid (w4.grownBy w5 (some bm)):=(Bt HGr.out _).andThen hg5 (ZJ (.inl HGr.out.size));have xP:ZN w w5:=HB4.out.grown HG5.out HB4.out.size (ZJ hmw);obtain⟨z,hz⟩:=ZH wr.heap.size;rw[<-hz]at hB5 ⊢;have x5:AJ w5 z 0 22=some x.cells:=hB5.row 22 rfl;have HC:=AA (TQ kd rd pr bk br bf bm g w.heap.size m lb w w5 x (HK.out.kept HG5.out (by intro e;injection e with e;exact hkm e)) (HRr.out.kept HG5.out (by intro e;injection e with e;exact hrm e)) (HFb.out.kept HG5.out (by intro e;injection e with e;exact hfm e)) HM5.out yo HF.out xP (AB _) HXv.out);clear hB5 hg5 yp hz x1 hbm5;try go_frame
   go_wp2_with fail
   refine HC.out.mono ?_;rintro en w6 ⟨rfl,hM6,hg6⟩;have HM6:=AA hM6;have HG6:Hid (w4.grownBy w6 (some bm)):=HG5.out.trans hg6;clear hM6 hg6 HC x5;go_wp2;go_roundw
   case rel=>
    refine⟨i+1,by go_num,by rw[HN.out];omega,?_,HG6.out⟩;rw[TO HXx.out,Gs,<-HMm.out];exact HM6.out
   case measure=>simp[intOf];omega
  ·have di:=ZL (show n<=i by omega)
   have yY:m=Bx (pW kd rd pr) O:=by rw[HMm.out,AT (by rw[HN.out];omega)]
   have y2:wr.cell? ⟨bm,0,none⟩=some (.int .i64 (m:Int)):=HBm.out.cell 0;have yg:=AA yY;clear yY;go_wp2;go_ret;exact⟨by rw[<-yg.out];rfl,HB4.out.grown HGr.out HB4.out.size (ZJ hmw)⟩
end
section

def spF(s:Nat)(p:Nm)(l:List Vt):List Vt:=l.filter fun x=>decide (x.slot=(s:Int))&&decide (x.parent=p)
def owF(s:Nat)(p:Nm)(f:Int)(l:List Vt)(k r:Int):Bool:=(spF s p l).any fun x=>decide (x.signer=f)&&(decide (x.kind=k)&&decide (x.round=r))
def pV(k r:Int)(x:Vl):Vt->Bool:=pW k r (fun v=>decide (GD v=x))
def pA(k r:Int):Vt->Bool:=pW k r (fun _=>true)
def pM(k r:Int):Vt->Bool:=pW k r (fun v=>decide (v.choice=2))
section
variable (M:Int)(q:Nat)(p:Nm)(s:Nat)(f:Int)
def F8(l:List Vt)(H:List Nm)(ow:Int->Int->Bool):Option Vt->Prop
 |none=>ow 2 0=true∨∃O L,FP M p (s:Int) (slB s l) O/\Mf 1 1 O L/\∀k∈L,¬k∈H
 |some v=>ow 2 0=false/\∃O k,FP M p (s:Int) (slB s l) O/\¬k=Nm.zero/\1<=Aw (Bx (pK 1 k) O) 10/\k∈H/\v=⟨2,s,0,1,f,0,p,k⟩
def Ed(l:List Vt)(wt:Bool)(ow:Int->Int->Bool):Option Vt->Prop
 |none=>ow 3 1=true∨(wt=false/\∃O,FP M p (s:Int) (slB s l) O/\Mf 2 q O [])
 |some v=>ow 3 1=false/\((∃O O' k,FP M p (s:Int) (slB s l) O/\FP M p (s:Int) (slB s l) O'/\¬k=Nm.zero/\q<=Aw (Bx (pK 2 k) O) 10/\v=⟨3,s,1,1,f,((IN (Bx (pK 2 k) O') q:Nat):Int),p,k⟩)
   ∨(wt=true/\(∃O,FP M p (s:Int) (slB s l) O/\Mf 2 q O [])/\v=⟨3,s,1,0,f,0,p,Nm.zero⟩))
def Dk(O:List Vt)(ow:Int->Int->Bool)(r:Int):Option Vt->Prop
 |none=>ow 3 r=false∨ow 4 r=true∨((∀x,DF 3 r O x->Aw (Bx (pV 3 r x) O) 10<q)/\Aw (Bx (pA 3 r) O) 10<q)
 |some v=>ow 3 r=true/\ow 4 r=false/\((∃x,DF 3 r O x/\q<=Aw (Bx (pV 3 r x) O) 10/\v=⟨4,s,r,x.choice,f,((IN (Bx (pV 3 r x) O) q:Nat):Int),p,x.name⟩)
   ∨((∀x,DF 3 r O x->Aw (Bx (pV 3 r x) O) 10<q)/\q<=Aw (Bx (pA 3 r) O) 10/\v=⟨4,s,r,2,f,((IN (Bx (pA 3 r) O) q:Nat):Int),p,Nm.zero⟩))
def Ke(O:List Vt)(ow:Int->Int->Bool)(r:Int):Option Vt->Prop
 |none=>True
 |some v=>ow 4 r=true/\ow 3 (r+1)=false/\∃(x:Vl) (m:Nat),(DF 4 r O x∨DF 3 r O x)/\m<1024/\v=⟨3,s,r+1,x.choice,f,(m:Int),p,x.name⟩
def C4(l:List Vt)(H:List Nm)(wt:Bool):Option Vt->Prop
 |none=>¬((0<=f/\f<=9)/\(xOf M).testBit f.toNat=true)∨(xOf M).testBit s=false∨(∃L,KZ M p s l L/\¬L=[])∨
   (KZ M p s l []/\F8 M p s f (spF s p l) H (owF s p f l) none/\Ed M q p s f (spF s p l) wt (owF s p f l) none/\∃O,FP M p (s:Int) (spF s p l) O/\∀r:Int,1<=r->r<=12->Dk q p s f O (owF s p f l) r none)
 |some v=>((0<=f/\f<=9)/\(xOf M).testBit f.toNat=true)/\(xOf M).testBit s=true/\KZ M p s l []/\
   (F8 M p s f (spF s p l) H (owF s p f l) (some v)∨
    (F8 M p s f (spF s p l) H (owF s p f l) none/\
     (Ed M q p s f (spF s p l) wt (owF s p f l) (some v)∨
      (Ed M q p s f (spF s p l) wt (owF s p f l) none/\∃(O:List Vt) (r:Int),FP M p (s:Int) (spF s p l) O/\1<=r/\r<=12/\
       (∀r',1<=r'->r'<r->Dk q p s f O (owF s p f l) r' none)/\(Dk q p s f O (owF s p f l) r (some v)∨(r<12/\Dk q p s f O (owF s p f l) r none/\Ke p s f O (owF s p f l) r (some v)))))))
variable {M q p s f}
theorem DF.fits{k r:Int}{O:List Vt}{x:Vl}(hO:∀v∈O,Ab v)(hk:k=3∨k=4)(h:DF k r O x):(x.choice=0∨x.choice=1)/\(x.choice=1↔¬x.name=Nm.zero)/\1<=r/\r<=12:=by
 obtain⟨v,hv,h1,h2,h3,rfl⟩:=h;obtain⟨_,_,a3,_,_,a6,a7,_⟩:=hO v hv;unfold GD;refine⟨?_,a3,?_⟩
 ·rcases hk with hk|hk
  ·have:=a6 (by omega);show v.choice=0∨v.choice=1;omega
  ·have:=a7 (by omega);show v.choice=0∨v.choice=1;omega
 ·rcases hk with hk|hk
  ·have:=a6 (by omega);omega
  ·have:=a7 (by omega);omega
def Rg(s:Nat)(p:Nm)(f:Int)(ow:Int->Int->Bool)(v:Vt):Prop:=Ab v/\v.slot=(s:Int)/\v.signer=f/\v.parent=p/\ow v.kind v.round=false
theorem F8.due{l:List Vt}{H:List Nm}{ow:Int->Int->Bool}{v:Vt}(hs:s<=9)(hf:0<=f/\f<=9)(h:F8 M p s f l H ow (some v)):Rg s p f ow v:=by
 obtain⟨h1,O,k,_,h2,_,_,rfl⟩:=h;exact⟨⟨by simp,hf,by simp[h2],by simp,fun _=>⟨by simp;omega,rfl,rfl,rfl⟩,by simp,by simp,by simp⟩,rfl,rfl,rfl,h1⟩
theorem Mh(S k:Nat):0<=((IN S k:Nat):Int)/\((IN S k:Nat):Int)<=1023:=by have:=RQ S k;omega
theorem Ed.due{l:List Vt}{wt:Bool}{ow:Int->Int->Bool}{v:Vt}(hs:s<=9)(hf:0<=f/\f<=9)(h:Ed M q p s f l wt ow (some v)):Rg s p f ow v:=by
 obtain⟨h1,⟨O,O',k,_,_,h2,_,rfl⟩|⟨_,_,rfl⟩⟩:=h
 ·exact⟨⟨by simp,hf,by simp[h2],Mh _ _,by simp,fun _=>⟨by simp;omega,by simp,by simp,by simp⟩,by simp,by simp⟩,rfl,rfl,rfl,h1⟩
 ·exact⟨⟨by simp,hf,by simp,by simp,by simp,fun _=>⟨by simp;omega,by simp,by simp,by simp⟩,by simp,by simp⟩,rfl,rfl,rfl,h1⟩
theorem Dk.due{O:List Vt}{ow:Int->Int->Bool}{r:Int}{v:Vt}(hO:∀v∈O,Ab v)(hs:s<=9)(hf:0<=f/\f<=9)(hr:1<=r/\r<=12)(h:Dk q p s f O ow r (some v)):Rg s p f ow v:=by
 obtain⟨_,h1,⟨x,hx,_,rfl⟩|⟨_,_,rfl⟩⟩:=h
 ·obtain⟨x1,x2,_⟩:=hx.fits hO (.inl rfl);exact⟨⟨by simp,hf,x2,Mh _ _,by simp,by simp,fun _=>⟨by simp;omega,hr,by show 0<=x.choice/\x.choice<=2;omega⟩,by simp⟩,rfl,rfl,rfl,h1⟩
 ·exact⟨⟨by simp,hf,by simp,Mh _ _,by simp,by simp,fun _=>⟨by simp;omega,hr,by simp⟩,by simp⟩,rfl,rfl,rfl,h1⟩
theorem Ke.due{O:List Vt}{ow:Int->Int->Bool}{r:Int}{v:Vt}(hO:∀v∈O,Ab v)(hs:s<=9)(hf:0<=f/\f<=9)(hr:1<=r/\r<12)(h:Ke p s f O ow r (some v)):Rg s p f ow v:=by
 obtain⟨_,h1,x,m,hx,hm,rfl⟩:=h;have hx':(x.choice=0∨x.choice=1)/\(x.choice=1↔¬x.name=Nm.zero):=by
  rcases hx with hx|hx
  ·have:=hx.fits hO (.inr rfl);exact⟨this.1,this.2.1⟩
  ·have:=hx.fits hO (.inl rfl);exact⟨this.1,this.2.1⟩
 exact⟨⟨by simp,hf,hx'.2,by show 0<=(m:Int)/\(m:Int)<=1023;omega,by simp,fun _=>⟨by simp;omega,by show 1<=r+1/\r+1<=12;omega,by show 0<=x.choice/\x.choice<=1;omega,.inl (by show r+1≠1;omega)⟩,by simp,by simp⟩,rfl,rfl,rfl,h1⟩
theorem C4.due{l:List Vt}{H:List Nm}{wt:Bool}{v:Vt}(hl:∀v∈l,Ab v)(hs:s<=9)(h:C4 M q p s f l H wt (some v)):Rg s p f (owF s p f l) v:=by
 obtain⟨⟨hf,_⟩,_,_,h⟩:=h;rcases h with h|⟨_,h|⟨_,O,r,hO,h1,h2,_,h⟩⟩
 ·exact h.due hs hf
 ·exact h.due hs hf
 ·have hV:∀v∈O,Ab v:=fun v hv=>hl v (List.mem_filter.1 (hO.1.2 v hv).1).1
  rcases h with h|⟨h3,_,h⟩
  ·exact h.due hV hs hf ⟨h1,h2⟩
  ·exact h.due hV hs hf ⟨h1,h3⟩
end
end
section
open Go.RowKit
theorem No(w:World):(zeroValue 3).run prog w= .ok (.int .i64 0) w:=by kernel_rfl
theorem L5{o:Oper}{a:Act}(x y:Operand)(ho:o.op= .lookup 227 x y false)(m:Nat)(k:Int×Int)(hx:a.eval x= .map (some m))(hy:a.eval y=DZ k){w:World}{kl:List ((Int×Int)×Value)}(h:Bp DZ w m kl):(execOp a.eval o).run prog w= .ok (.value ((BQ k kl).getD (.int .i64 0))) w:=by
 have hr:=h.is.look RS underlying227 (.int .i64 0) (No w) k false;unfold execOp;rw[ho];simp only[hx,hy];simp only[Bool.false_eq_true,if_false]at hr;simp[hr,Result.andThen]
theorem Qf{op:Oper}{a:Act}{K:Act->World->Prop}{Q:Exit->Act->World->Prop}(x y:Operand)(ho:op.op= .mapEntry 227 x y)(m:Nat)(k:Int×Int)(hx:a.eval x= .map (some m))(hy:a.eval y=DZ k){w:World}{kl:List ((Int×Int)×Value)}(h:Bp DZ w m kl)(hK:∀(w':World) (b:Nat) (v:Value) (kl':List ((Int×Int)×Value)),LZ DZ w' m kl' k b->(∀k',BQ k' kl'=if k'=k then some ((BQ k kl).getD (.int .i64 0))else BQ k' kl)->w.grownBy w' (some m)->w'.heap.size=w.heap.size->K (a.put op.dst (.tuple #[v,goInt (b:Int)])) w'):op.wp prog a w K Q:=by
 obtain⟨w',b,v,kl',hr,h1,h2,h3,h4,h5,h6⟩:=h.entryX RS underlying227 (.int .i64 0) No k;refine CC (w':=w') (.tuple #[v,goInt (b:Int)]) ?_ (hK w' b v kl' h1 h2 h5 h6);unfold execOp;rw[ho];simp only[hx,hy];simp[hr,Result.andThen]
theorem Qg{op:Oper}{a:Act}{K:Act->World->Prop}{Q:Exit->Act->World->Prop}(x y z:Operand)(ho:op.op= .entryStore 227 x y z)(m b:Nat)(k:Int×Int)(v:Value)(hx:a.eval x= .map (some m))(hy:a.eval y=goInt (b:Int))(hz:a.eval z=v){w:World}{kl:List ((Int×Int)×Value)}(h:LZ DZ w m kl k b)(hK:∀(w':World) (kl':List ((Int×Int)×Value)),kl'=CP k v kl->Bp DZ w' m kl'->w.grownBy w' (some m)->w'.heap.size=w.heap.size->K (a.put op.dst undef) w'):op.wp prog a w K Q:=by
 obtain⟨w',hr,h1,h2,h3,h4,h5⟩:=h.store (P:=prog) 227 v;refine Md (w':=w') ?_ (hK w' _ rfl h1 h4 h5);unfold execOp;rw[ho];simp only[hx,hy,hz];simp[hr,Result.andThen]
theorem L6{κ:Type}{enc:κ->Value}{w:World}{m base n size:Nat}{e:TypeId}{v:Value}{xs:List Value}{l:List (κ×Value)}(h:Bp enc w m l)(ho:w.ownsRow base e size v n xs):some m≠v.ownBlock:=by
 obtain⟨es,c,h1,_⟩:=h;rcases ho.2 with⟨rfl,_⟩|⟨g,cap,cur,rfl,_,hh,_⟩
 ·simp[Value.ownBlock]
 ·intro he;have:m=g:=by simpa[Value.ownBlock]using he
  subst this;rw[h1]at hh;cases hh
theorem L8{κ:Type}{enc:κ->Value}{w:World}{m g t:Nat}{cs:Array Value}{l:List (κ×Value)}(h:Bp enc w m l)(hB:Blk w g t cs):m≠g:=by
 obtain⟨es,c,h1,_⟩:=h;rintro rfl;unfold Blk at hB;rw[h1]at hB;cases hB
theorem Qh{s:Nat}{p:Nm}{l:List Vt}{x:Vt}(h:x∈spF s p l):x∈l/\x.slot=(s:Int)/\x.parent=p:=by
 obtain⟨h1,h2⟩:=List.mem_filter.1 h;rw[Bool.and_eq_true,decide_eq_true_eq,decide_eq_true_eq]at h2;exact⟨h1,h2⟩
theorem Np{s:Nat}{p:Nm}{l:List Vt}{i:Nat}{x:Vt}(hx:l[i]? =some x):spF s p (l.take (i+1))=spF s p (l.take i)++if(decide (x.slot=(s:Int))&&decide (x.parent=p))=true then[x]else[]:=by
 unfold spF;rw[Ai,hx,BX,List.filter_append];simp only[List.filter_cons,List.filter_nil]
theorem Mi{s:Nat}{p:Nm}{l:List Vt}{i:Nat}{x:Vt}(hx:l[i]? =some x)(h1:x.slot=(s:Int))(h2:x.parent=p):spF s p (l.take (i+1))=spF s p (l.take i)++[x]:=by
 rw[Np hx,if_pos (by simp[h1,h2])]
theorem Kf{s:Nat}{p:Nm}{l:List Vt}{i:Nat}{x:Vt}(hx:l[i]? =some x)(h1:¬(x.slot=(s:Int)/\x.parent=p)):spF s p (l.take (i+1))=spF s p (l.take i):=by
 rw[Np hx,if_neg (by simpa using h1),List.append_nil]
def OwB(s:Nat)(p:Nm)(f:Int)(l:List Vt)(n:Nat)(kl:List ((Int×Int)×Value)):Prop:=
 ∀k r,∃z:Nat,(BQ (k,r) kl).getD (.int .i64 0)= .int .i64 (z:Int)/\z<=n/\decide (0<z)=owF s p f l k r
theorem OwB.nil(s:Nat)(p:Nm)(f:Int):OwB s p f [] 0 []:=fun _ _=>⟨0,rfl,AB _,rfl⟩
theorem OwB.miss{s:Nat}{p:Nm}{f:Int}{l:List Vt}{i:Nat}{x:Vt}{kl:List ((Int×Int)×Value)}(h:OwB s p f (l.take i) i kl)(hx:l[i]? =some x)(h1:¬(x.slot=(s:Int)/\x.parent=p)):OwB s p f (l.take (i+1)) (i+1) kl:=fun k r=>by
 obtain⟨z,a1,a2,a3⟩:=h k r;refine⟨z,a1,by omega,?_⟩;rw[a3];unfold owF;rw[Kf hx h1]
theorem OwB.other{s:Nat}{p:Nm}{f:Int}{l:List Vt}{i:Nat}{x:Vt}{kl:List ((Int×Int)×Value)}(h:OwB s p f (l.take i) i kl)(hx:l[i]? =some x)(h1:x.slot=(s:Int))(h2:x.parent=p)(h3:¬x.signer=f):OwB s p f (l.take (i+1)) (i+1) kl:=fun k r=>by
 obtain⟨z,a1,a2,a3⟩:=h k r;refine⟨z,a1,by omega,?_⟩;rw[a3];unfold owF;rw[Mi hx h1 h2,List.any_append];simp[h3]
theorem OwB.hit{s:Nat}{p:Nm}{f:Int}{l:List Vt}{i z:Nat}{x:Vt}{kl kl5 kl6:List ((Int×Int)×Value)}(h:OwB s p f (l.take i) i kl)(hx:l[i]? =some x)(h1:x.slot=(s:Int))(h2:x.parent=p)(h3:x.signer=f)(hz:(BQ (x.kind,x.round) kl).getD (.int .i64 0)= .int .i64 (z:Int))(h5:∀k',BQ k' kl5=if k'=(x.kind,x.round)then some ((BQ (x.kind,x.round) kl).getD (.int .i64 0))else BQ k' kl)(h6:kl6=CP (x.kind,x.round) (.int .i64 ((z+1:Nat):Int)) kl5):OwB s p f (l.take (i+1)) (i+1) kl6:=fun k r=>by
 have e:owF s p f (l.take (i+1)) k r=(owF s p f (l.take i) k r||(decide (x.kind=k)&&decide (x.round=r))):=by
  unfold owF;rw[Mi hx h1 h2,List.any_append];simp[h3]
 rw[e,h6,Cn];obtain⟨z',a1,a2,a3⟩:=h k r;by_cases hk:(k,r)=(x.kind,x.round)
 ·rw[if_pos hk,Option.getD_some];injection hk with hk1 hk2
  subst hk1;subst hk2;rw[a1]at hz;simp only[Value.int.injEq,true_and]at hz;exact⟨z+1,rfl,by omega,by simp⟩
 ·rw[if_neg hk,h5,if_neg hk];have:(decide (x.kind=k)&&decide (x.round=r))=false:=by
   rw[Bool.and_eq_false_iff,decide_eq_false_iff_not,decide_eq_false_iff_not];by_cases hk1:x.kind=k
   ·refine .inr fun hr=>hk (by rw[hk1,hr])
   ·exact .inl hk1
  rw[this,Bool.or_false];exact⟨z',a1,by omega,a3⟩
theorem GK{o:Oper}{a:Act}(M q s f:Int)(p:Nm)(mo:Nat)(x0 x1 x2 x3 x4 x6:Operand)(ho:o.op= .build 229 #[(0,x0),(1,x1),(2,x2),(3,x3),(4,x4),(6,x6)])(h0:a.eval x0= .int .i64 M)(h1:a.eval x1=I q)(h2:a.eval x2=I s)(h3:a.eval x3=I f)(h4:a.eval x4= .agg p.cells)(h6:a.eval x6= .map (some mo))(w:World):(execOp a.eval o).run prog w= .ok (.value (.agg (Cz M q s f p none 0 0 mo))) w:=by
 unfold execOp;rw[ho];simp only[List.map_toArray,List.map_cons,List.map_nil,h0,h1,h2,h3,h4,h6];go_simp
end
section
open Go.RowKit Go.Shelf
attribute [local go_sem ↓] Go.wp_at_zero Go.wp_at_succ Aj Ao Ap Aq
attribute [local go_sem] Ax BB BC BD AK AR AN
def KB(M:Int)(p:Nm)(s:Nat)(kd:Int)(n:Nat)(l:List Vt)(w:World)(e:Ending)(w':World):Prop:=
 ∃(v:Value) (O:List Vt) (L:List Nm),e= .returned v/\FP M p (s:Int) (slB s l) O/\Mf kd n O L/\L.length<=l.length/\w'.ownsRow w.heap.size 24 8 v L.length (L.flatMap nmc)/\ZN w w'
theorem Qi{a i:Nat}:∀n,i<n->a.testBit i=true->0<Aw a n
 |0,h,_=>by omega
 |n+1,h,hb=>by
  rw[DX];by_cases e:i=n
  ·subst e;rw[hb];simp
  ·have:=Qi n (by omega) hb;omega
theorem Qj{M:Int}{s:Nat}(hs:(xOf M).testBit s=true):0<Aw (xOf M) 10:=by
 refine Qi 10 ?_ hs;rcases Nat.lt_or_ge s 10 with h|h
 ·exact h
 ·rw[Nat.testBit_lt_two_pow (Nat.lt_of_lt_of_le (QN M) (show 2^10<=2^s from Nat.pow_le_pow_right (by decide) h))]at hs;cases hs
theorem Rh(M:Int)(p:Nm)(A:Option Addr)(n c:Nat)(l:List Vt)(s:Nat)(w0:World)(hn:l.length=n)(hr:Rd w0 w0.heap.size A (l.flatMap vtc))(hsm:n<=1000000)(hl:∀v∈l,Ab v)(hs:(xOf M).testBit s=true):Calls prog 205 #[.int .i64 M,p.val,.slice A n c,.int .i64 (s:Int)] w0 (KB M p s 1 1 l w0):=by
 obtain⟨w,hw⟩:=ZH (w0.alloc (.cells p.cells 24));have hb0:ZN w0 w:=by rw[hw];exact(AC _ _).alloc (AB _) _
 have hBq:Blk w w0.heap.size 24 p.cells:=by rw[hw];exact Blk.new w0 _ _
 obtain⟨q,hq⟩:=ZH w0.heap.size;rw[<-hq]at hBq;have HSg:=AA (GJ M p A n c l s 1 w hn ((hr.below hb0).more hb0.size) hsm hl hs);have HN:=AA hn;have hN6:l.length<=1000000:=by omega
 have HW:=AA hw;have HQ:=AA hq;have y1:AJ w q 0 8=some p.cells:=hBq.row 8 rfl;clear hn hr hl hs hw hBq hq;go_enter func205,ntmps205;go_upto_region 1 with fail
 simp only[<-HW.out,<-HQ.out];go_wp2_with (first
  |(go_at_call 250;refine HSg.out.mono ?_;rintro en w3 ⟨m,O,kl,rfl,hO,hOn,hbr,hmp,hm0,hb3⟩;have HO:=AA hO;have hCa:=AA (Nk 1 1 O m kl w3 (fun v hv=>(hO.1.2 v hv).2.1.1.2.1) (by omega) (AB _) hbr hmp);clear hbr hmp hO)
  |(go_at_call 249;refine hCa.out.mono ?_;rintro en w4 ⟨v4,L,rfl,hA,hLn,xA,hb4⟩;have HA:=AA hA;have xK:=AA xA;clear hA xA))
 go_ret;have zY:=hb0.trans (hb3.mono hb0.size);exact⟨v4,O,L,rfl,HO.out,HA.out,by omega,BE xK.out zY.size,zY.trans (hb4.mono zY.size)⟩
theorem Ri(M:Int)(p:Nm)(A:Option Addr)(n c:Nat)(l:List Vt)(s:Nat)(w0:World)(hn:l.length=n)(hr:Rd w0 w0.heap.size A (l.flatMap vtc))(hsm:n<=1000000)(hl:∀v∈l,Ab v)(hs:(xOf M).testBit s=true):Calls prog 207 #[.int .i64 M,p.val,.slice A n c,.int .i64 (s:Int)] w0 (KB M p s 2 (CH (Aw (xOf M) 10)) l w0):=by
 obtain⟨w,hw⟩:=ZH (w0.alloc (.cells p.cells 24));have hb0:ZN w0 w:=by rw[hw];exact(AC _ _).alloc (AB _) _
 have hBq:Blk w w0.heap.size 24 p.cells:=by rw[hw];exact Blk.new w0 _ _
 obtain⟨q,hq⟩:=ZH w0.heap.size;rw[<-hq]at hBq;have HSg:=AA (GJ M p A n c l s 2 w hn ((hr.below hb0).more hb0.size) hsm hl hs);have HN:=AA hn;have hN6:l.length<=1000000:=by omega
 have HW:=AA hw;have HQ:=AA hq;have y1:AJ w q 0 8=some p.cells:=hBq.row 8 rfl;have hq1:1<=CH (Aw (xOf M) 10):=KK (Qj hs);have HSz:Hid (∀W,Calls prog 15 #[.int .i64 M] W fun e w'=>e= .returned (.int .i64 ((Aw (xOf M) 10:Nat):Int))/\w'=W):=fun W=>Ct M W
 have HQu:Hid (∀W,Calls prog 115 #[.int .i64 ((Aw (xOf M) 10:Nat):Int)] W fun e w'=>e= .returned (.int .i64 ((CH (Aw (xOf M) 10):Nat):Int))/\w'=W):=fun W=>F4 _ (Fw _ _) W
 obtain⟨a,ha⟩:=ZH (Aw (xOf M) 10);rw[<-ha]at hq1 HSz HQu ⊢;obtain⟨b,hb⟩:=ZH (CH a);rw[<-hb]at hq1 HQu ⊢;have HQ1:=AA hq1;clear hn hr hl hs hw hBq hq ha hb hq1;go_enter func207,ntmps207;go_upto_region 1 with fail
 simp only[<-HW.out,<-HQ.out];go_wp2_with (first
  |(go_at_call 250;refine HSg.out.mono ?_;rintro en w3 ⟨m,O,kl,rfl,hO,hOn,hbr,hmp,hm0,hb3⟩;have HO:=AA hO;have hCa:=AA (Nk 2 b O m kl w3 (fun v hv=>(hO.1.2 v hv).2.1.1.2.1) (by omega) (HQ1.out) hbr hmp);clear hbr hmp hO)
  |(go_at_call 15;refine(HSz.out _).mono ?_;rintro en w5 ⟨rfl,hw5⟩;replace hw5:=hw5.symm;subst hw5)
  |(go_at_call 115;refine(HQu.out _).mono ?_;rintro en w6 ⟨rfl,hw6⟩;replace hw6:=hw6.symm;subst hw6)
  |(go_at_call 249;refine hCa.out.mono ?_;rintro en w4 ⟨v4,L,rfl,hA,hLn,xA,hb4⟩;have HA:=AA hA;have xK:=AA xA;clear hA xA))
 go_ret;have zY:=hb0.trans (hb3.mono hb0.size);exact⟨v4,O,L,rfl,HO.out,HA.out,by omega,BE xK.out zY.size,zY.trans (hb4.mono zY.size)⟩
def Ji(M:Int)(p:Nm)(s:Nat)(l:List Vt)(k:Nm)(w:World)(e:Ending)(w':World):Prop:=
 ∃(O:List Vt),e= .returned (.int .i64 ((Bx (pK 2 k) O:Nat):Int))/\FP M p (s:Int) (slB s l) O/\ZN w w'
theorem Nq(M:Int)(p:Nm)(A:Option Addr)(n c:Nat)(l:List Vt)(s:Nat)(k:Nm)(w0:World)(hn:l.length=n)(hr:Rd w0 w0.heap.size A (l.flatMap vtc))(hsm:n<=1000000)(hl:∀v∈l,Ab v)(hs:(xOf M).testBit s=true):Calls prog 208 #[.int .i64 M,p.val,.slice A n c,.int .i64 (s:Int),k.val] w0 (Ji M p s l k w0):=by
 obtain⟨w,hw⟩:=ZH (w0.alloc (.cells p.cells 24));have hb0:ZN w0 w:=by rw[hw];exact(AC _ _).alloc (AB _) _
 have hBq:Blk w w0.heap.size 24 p.cells:=by rw[hw];exact Blk.new w0 _ _
 obtain⟨q,hq⟩:=ZH w0.heap.size;rw[<-hq]at hBq;have hqw:q<w.heap.size:=hBq.lt;obtain⟨w2,hw2⟩:=ZH (w.alloc (.cells k.cells 24));have hb2:ZN w0 w2:=by rw[hw2];exact hb0.alloc hb0.size _
 obtain⟨z,hz⟩:=ZH (w0.heap.size+1);have hs1:w.heap.size=w0.heap.size+1:=by rw[hw];simp
 have hBz:Blk w2 z 24 k.cells:=by rw[hw2,hz,<-hs1];exact Blk.new w _ _
 have hFB:Blk w2 q 24 p.cells:=by rw[hw2];exact hBq.alloc _
 have xT:Hid (∀V,ZN w2 V->AJ V q 0 8=some p.cells/\AJ V z 0 8=some k.cells):=fun V hV=>⟨(hFB.below hV hFB.lt).row 8 rfl,(hBz.below hV hBz.lt).row 8 rfl⟩
 have HSg:Hid (∀V,ZN w2 V->Calls prog 250 #[.int .i64 M,p.val,.slice A n c,.int .i64 (s:Int),.int .i64 2] V (Qd M p s 2 l V)):=fun V hV=>GJ M p A n c l s 2 V hn ((hr.below (hb2.trans (hV.mono hb2.size))).more (AG hb2.size hV.size)) hsm hl hs
 have HW:=AA hw;have HW2:=AA hw2;have HQ:=AA hq;have HZ:=AA hz;have hbx:ZN w2 w2:=AC _ _;clear hn hr hl hs hw hBq hq hw2 hz hBz hFB hs1 hqw;go_enter func208,ntmps208;go_upto_region 1 with fail
 simp only[<-HW.out,<-HW2.out,<-HZ.out];simp only[<-HQ.out];refine rgD (fun V=>AJ V q 0 8=some p.cells/\AJ V z 0 8=some k.cells) (xT.out _ hbx.drew) fun _=>?_
 iterate 4 (refine tkA ?_;go_frame)
 refine tkD 16 5 ?_;go_frame;refine rd1 4 fun K hK=>?_
 go_simp;refine(HSg.out _ hbx.drew).mono ?_;rintro en w3 ⟨m,O,kl,rfl,hO,hOn,hbr,hmp,hm0,hb3⟩;have xI:=hbx.drew.trans (hb3.mono (AB _));have HO:=AA hO;obtain⟨S,hS⟩:=ZH (Bx (pK 2 k) O);have HLk:Hid ((BQ k kl).getD (.int .i64 0)= .int .i64 (S:Int)):=by(unfold Hid;rw[hS];exact hbr.1 k)
 have HS:=AA hS;have HMp:=AA hmp;clear hO hbr hmp hb3 hS;go_wp2_with fail
 refine hK.out _ _ (xT.out _ xI) (fun _=>?_);clear hK K;try go_frame
 refine rd1 6 fun K hK=>?_
 rw[if_pos (by rfl)];refine CC (.int .i64 (S:Int)) ((JF (.tmp 15) (.tmp 16) rfl m k rfl rfl HMp.out).trans (by rw[HLk.out])) ?_;refine hK.out _ _ (xT.out _ xI) (fun _=>?_);clear hK K;try go_frame
 refine tkD 10 7 ?_;go_frame;refine dnD ?_;go_wp2;go_ret;exact⟨O,by rw[<-HS.out];simp,HO.out,hb2.trans (xI.mono hb2.size)⟩
end
section
open Go.RowKit Go.Shelf
attribute [local go_sem ↓] Go.wp_at_zero Go.wp_at_succ Aj Ao Ap Aq Dv
attribute [local go_sem] Ax BB BC BD Fd AK AR AN
theorem Bj{w:World}{base e size n:Nat}{v:Value}{xs:List Value}(h:w.ownsRow base e size v n xs):∃A c,v= .slice A n c/\Rd w w.heap.size A xs:=by
 rcases h.2 with⟨rfl,h0⟩|⟨g,cap,cur,rfl,_⟩
 ·exact⟨none,0,by rw[h0],.inl (AV (by rw[h.1,h0,Nat.zero_mul]))⟩
 ·exact⟨_,cap,rfl,Rd.of_own h⟩
def GB:Option Vt->Array Value
 |none=>Ad
 |some v=>v.cells
def DO(R:Option Vt->Prop)(w:World)(e:Ending)(w':World):Prop:=∃o:Option Vt,e= .returned (.tuple #[.agg (GB o),.bool o.isSome])/\R o/\ZN w w'
theorem TR{w:World}{b:Nat}{M q f:Int}{s:Nat}{p:Nm}{A:Option Addr}{c mo:Nat}{O:List Vt}{ow:Int->Int->Bool}(h:Fh w b M q (s:Int) f p A c mo O ow)(A':Option Addr)(n' c':Nat)(l:List Vt)(hn:l.length=n')(hr:Rd w w.heap.size A' (l.flatMap vtc))(hsm:n'<=1000000)(hl:∀v∈l,Ab v)(hs:(xOf M).testBit s=true)(AH:Option Addr)(nH cH:Nat)(H:List Nm)(hnH:H.length=nH)(hrH:Rd w w.heap.size AH (H.flatMap nmc))(hDw:nH<=1000000):Calls prog 160 #[.pointer (some ⟨b,0,none⟩),.slice A' n' c',.slice AH nH cH] w (DO (F8 M p s f l H ow) w):=by
 obtain⟨w1,hw1⟩:=ZH (w.alloc (.cells Ad 46));have hb1:ZN w w1:=by rw[hw1];exact(AC _ _).alloc (AB _) _
 obtain⟨g,hg⟩:=ZH w.heap.size;have hG1:Blk w1 g 46 Ad:=by rw[hw1,hg];exact Blk.new w _ _
 have hgw:w.heap.size<=g:=by omega
 have hV1:=h.below hb1;have HV:Hid (∀V,ZN w1 V->Fh V b M q (s:Int) f p A c mo O ow):=fun V hV=>hV1.below hV
 have HG:Hid (∀V,ZN w1 V->Blk V g 46 Ad):=fun V hV=>hG1.below hV hG1.lt
 have HS:Hid (∀V,ZN w1 V->V.cell? ⟨b,0,none⟩=some (.int .i64 M)/\AJ V b 4 8=some p.cells/\V.cell? ⟨b,2,none⟩=some (.int .i64 (s:Int))):=fun V hV=>⟨(hV1.below hV).blk.cell 0,(hV1.below hV).row_parent,(hV1.below hV).blk.cell 2⟩
 have hBe:=AA (Dy hV1 2 0);have HPr:Hid (∀V,ZN w1 V->Calls prog 205 #[.int .i64 M,p.val,.slice A' n' c',.int .i64 (s:Int)] V (KB M p s 1 1 l V)):=fun V hV=>Rh M p A' n' c' l s V hn ((hr.below (hb1.trans (hV.mono hb1.size))).more (AG hb1.size hV.size)) hsm hl hs
 have HRH:Hid (∀V,ZN w1 V->Rd V w.heap.size AH (H.flatMap nmc)):=fun V hV=>hrH.below (hb1.trans (hV.mono hb1.size))
 have hN6:l.length<=1000000:=by omega
 have HNH:=AA hnH;have HB1:=AA hb1;have HW1:=AA hw1;have HGg:=AA hg;obtain⟨d,hd⟩:=ZH (ow 2 0);rw[<-hd]at hBe;have hbx:ZN w1 w1:=AC _ _;clear h hn hr hsm hl hs hnH hrH hw1 hb1 hg hG1 hV1;go_enter func160,ntmps160;go_upto_region 1 with fail
 simp only[<-HW1.out,<-HGg.out];cases d with
 |true=>
  have HD:=AA hd.symm;clear hd;go_wp2_with (first
   |(go_at_call 204;refine hBe.out.mono ?_;rintro en w2 ⟨rfl,hw2⟩;replace hw2:=hw2.symm;subst hw2)
   |(refine AI rfl 46 (.tmp 6) (.tmp 14) rfl g Ad rfl rfl 46 Ad (HG.out _ hbx) rfl Au (fun u hu=>CR hu) ?_;intro w9 hR9 hg9 xu))
  refine bodyPost_ret (AW (g:=g) (cs:=Ad) rfl _ _ _ _ _ rfl hR9 underlying46 rfl Au) rfl ⟨none,rfl,.inl HD.out,?_⟩;exact HB1.out.grown hg9 HB1.out.size (ZJ hgw)
 |false=>
  have HD:=AA hd.symm;clear hd;go_upto_region 3 with(go_at_call 204;refine hBe.out.mono ?_;rintro en w2 ⟨rfl,hw2⟩;replace hw2:=hw2.symm;subst hw2)
  refine rgD (fun V=>V.cell? ⟨b,0,none⟩=some (.int .i64 M)/\AJ V b 4 8=some p.cells/\V.cell? ⟨b,2,none⟩=some (.int .i64 (s:Int))) (HS.out _ hbx.drew) fun _=>?_
  iterate 13 (refine tkA ?_;go_frame)
  refine tkD 30 15 ?_;go_frame;refine rd1 13 fun K hK=>?_
  go_simp;refine(HPr.out _ hbx.drew).mono ?_;rintro en w3 ⟨v3,O3,L,rfl,hO3,hA3,hL3,xD,hb3⟩;have xI:=hbx.drew.trans (hb3.mono (AB _));obtain⟨A3,c3,rfl,hR3⟩:∃A1 c1,v3= .slice A1 L.length c1/\Rd w3 w3.heap.size A1 (L.flatMap nmc):=(by
   rcases xD.2 with⟨rfl,h0⟩|⟨g',cap,cur,rfl,_⟩
   ·exact⟨none,0,by rw[h0],.inl (AV (by rw[xD.1,h0,Nat.zero_mul]))⟩
   ·exact⟨_,cap,rfl,Rd.of_own xD⟩)
  have HR3:=AA hR3;have HO3:=AA hO3;have HA3:=AA hA3;obtain⟨nL,hnL⟩:=ZI L.length;rw[hnL]at hL3 ⊢;have HNL:=AA hnL;clear xD hR3 hO3 hA3 hb3 hnL;go_wp2_with fail
  refine hK.out _ _ (HS.out _ xI) (fun _=>?_);clear hK K;try go_frame
  refine tkD 29 14 ?_;go_frame;refine dnD ?_;have hDx:nL<=1000000:=by omega
  go_wp2
  go_loopw [30] (fun iv wr=>∃i:Nat,iv= .int .i64 (i:Int)/\i<=nL/\ZN w3 wr/\∀k∈L.take i,¬k∈H) (fun iv _=>nL-(intOf iv).toNat)
  case atStart=>exact⟨0,rfl,Nat.zero_le _,AC _ _,fun k hk=>by simp at hk⟩
  case round=>
   obtain⟨i,rfl,hin,hbr,hno⟩:=hrel;have HNo:=AA hno;have yj:=xI.trans (hbr.mono xI.size);clear hno;by_cases hi:i<nL
   ·have di:=ZK (show i<nL by omega)
    obtain⟨x,hx⟩:∃x,L[i]? =some x:=⟨_,AD (by rw[HNL.out];exact hi)⟩;obtain⟨g0,o,rfl,hb,xH⟩:=HR3.out.cells (by intro e;have:=AY nmc 8 L (Cb L);rw[e,HNL.out]at this;simp at this;omega);clear xH;have x1:AJ wr g0 (o+i*8) 8=some x.cells:=(HR3.out.below hbr).row hx;have HX:=AA hx;clear hx;go_upto_region 6 with fail
    obtain⟨w4,hw4⟩:=ZH (wr.alloc (.cells x.cells 24));rw[<-hw4];have hB4:Blk w4 wr.heap.size 24 x.cells:=by rw[hw4];exact Blk.new wr _ _
    have hb4:ZN w3 w4:=by rw[hw4];exact hbr.alloc hbr.size _
    obtain⟨z,hz⟩:=ZH wr.heap.size;rw[<-hz]at hB4 ⊢;have HZ4:Hid (∀V,ZN w4 V->AJ V z 0 8=some x.cells):=fun V hV=>(hB4.below hV hB4.lt).row 8 rfl
    clear hw4 hz hB4 x1;go_wp2
    go_loopw [36] (fun iv wr=>∃j:Nat,iv= .int .i64 (j:Int)/\j<=nH/\ZN w4 wr/\¬x∈H.take j) (fun iv _=>nH-(intOf iv).toNat)
    case atStart=>exact⟨0,rfl,Nat.zero_le _,AC _ _,by simp⟩
    case round=>
     obtain⟨j,rfl,hjn,hby,hnx⟩:=hrel;have HNx:=AA hnx;have hFC:=hb4.trans (hby.mono hb4.size);have hHH:=xI.trans (hFC.mono xI.size);clear hnx;by_cases hj:j<nH
     ·have dj:=ZK (show j<nH by omega)
      obtain⟨k,hk⟩:∃k,H[j]? =some k:=⟨_,AD (by rw[HNH.out];exact hj)⟩;obtain⟨g1,o1,rfl,hb',xH⟩:=(HRH.out _ hbx).cells (by intro e;have:=AY nmc 8 H (Cb H);rw[e,HNH.out]at this;simp at this;omega);clear xH;have x2:AJ wr g1 (o1+j*8) 8=some k.cells:=(HRH.out _ hHH).row hk;have HK:=AA hk;clear hk;go_upto_region 9 with fail
      obtain⟨w5,hw5⟩:=ZH (wr.alloc (.cells k.cells 24));rw[<-hw5];have hB5:Blk w5 wr.heap.size 24 k.cells:=by rw[hw5];exact Blk.new wr _ _
      have hb5:ZN w4 w5:=by rw[hw5];exact hby.alloc hby.size _
      obtain⟨z5,hz5⟩:=ZH wr.heap.size;rw[<-hz5]at hB5 ⊢;have x5:AJ w5 z5 0 8=some k.cells:=hB5.row 8 rfl;have x4:AJ w5 z 0 8=some x.cells:=HZ4.out _ hb5;have hb53:=hb4.trans (hb5.mono hb4.size);have xX:=xI.trans (hb53.mono xI.size);clear hw5 hz5 hB5 x2 hHH hFC;by_cases he:k=x
      ·have e9:∀W,(Op.equalIn 10000 24 (.agg k.cells) (.agg x.cells)).run prog W= .ok true W:=fun W=>by
        have h:=ED k x W 9998;rwa[decide_eq_true he]at h
       obtain⟨v,hv⟩:∃v:Vt,v=Vt.mk 2 (s:Int) 0 1 f 0 p x:=⟨_,rfl⟩;have HVo:Hid (∀V,ZN w1 V->Calls prog 206 #[.pointer (some ⟨b,0,none⟩),.int .i64 2,.int .i64 0,(Vl.mk 1 x).val,.int .i64 0] V (fun e w'=>e= .returned (.tuple #[v.val,.bool true])/\ZN V w')):=fun V hV=>by rw[hv];exact Gw (HV.out V hV) 2 0 (Vl.mk 1 x) 0
       have HVv:=AA hv;have HE:=AA he;clear he hv;go_wp2_with (first
        |(refine Great.wpList_readTo rfl (some 45) rfl (Vl.mk 1 x).val (GQ 1 x (.const (.int .i64 1)) (.tmp 44) rfl rfl rfl _) ?_)
        |(go_at_call 206;refine(HVo.out _ xX).mono ?_;rintro en w7 ⟨rfl,hb7⟩;have xb:=xX.trans (hb7.mono xX.size))
        |(refine AI rfl 46 (.tmp 6) (.tmp 47) rfl g v.cells rfl rfl 46 Ad (HG.out _ xb) rfl Au (fun u hu=>BO _ hu) ?_;intro w9 hR9 hg9 xu))
       have za:=HB1.out.trans (xb.mono HB1.out.size);refine bodyPost_ret (AW (g:=g) (cs:=v.cells) rfl _ _ _ _ _ rfl hR9 underlying46 rfl Au) rfl ⟨some v,rfl,⟨HD.out,O3,x,HO3.out,((HA3.out x).1 (AM HX.out)).1,((HA3.out x).1 (AM HX.out)).2,by rw[<-HE.out];exact AM HK.out,HVv.out⟩,?_⟩;exact za.grown hg9 za.size (ZJ hgw)
      ·have e9:∀W,(Op.equalIn 10000 24 (.agg k.cells) (.agg x.cells)).run prog W= .ok false W:=fun W=>by
        have h:=ED k x W 9998;rwa[decide_eq_false he]at h
       have HE:=AA he;clear he;go_wp2;go_roundw
       case rel=>
        refine⟨j+1,by go_num,by omega,hb5,fun hm=>?_⟩;rw[Ai,HK.out,BX]at hm;rcases AP.1 hm with hm|hm
        ·exact HNx.out hm
        ·exact HE.out (AU.1 hm).symm
       case measure=>simp[intOf];omega
     ·have dj:=ZL (show nH<=j by omega)
      go_wp2;go_roundw
      case rel=>
       refine⟨i+1,by go_num,by omega,hFC,fun k hk=>?_⟩;rw[Ai,HX.out,BX]at hk;rcases AP.1 hk with hk|hk
       ·exact HNo.out k hk
       ·rw[AU.1 hk];have hnx:=HNx.out;rwa[AT (by rw[HNH.out];omega)]at hnx
      case measure=>simp[intOf];omega
   ·have di:=ZL (show nL<=i by omega)
    have yY:∀k∈L,¬k∈H:=by
     have h:=HNo.out;rwa[AT (by rw[HNL.out];omega)]at h
    have yg:=AA yY;clear yY;have hb0r:=HB1.out.trans (yj.mono HB1.out.size);go_wp2_with (refine AI rfl 46 (.tmp 6) (.tmp 51) rfl g Ad rfl rfl 46 Ad (HG.out _ yj) rfl Au (fun u hu=>CR hu) ?_;intro w9 hR9 hg9 xu)
    refine bodyPost_ret (AW (g:=g) (cs:=Ad) rfl _ _ _ _ _ rfl hR9 underlying46 rfl Au) rfl ⟨none,rfl,.inr ⟨O3,L,HO3.out,HA3.out,yg.out⟩,?_⟩;exact Below.grown (hb0r) hg9 (Below.size (hb0r)) (ZJ hgw)
end
section
open Go.RowKit Go.Shelf
attribute [local go_sem] Oper.semAt_some
theorem Nr(s:Nat):∀(d i:Nat),∃t,CV s (i+d)=CV s i++t
 |0,i=>⟨[],by simp⟩
 |d+1,i=>by
  obtain⟨t,ht⟩:=Nr s d i;cases hb:s.testBit (i+d)with
  |true=>exact⟨t++[i+d],by rw[<-Nat.add_assoc,I4 hb,ht,List.append_assoc]⟩
  |false=>exact⟨t,by rw[<-Nat.add_assoc,Fg hb,ht]⟩
theorem TS{s i k:Nat}(hi:i<=10)(hk:k<=(CV s i).length):(CV s 10).take k=(CV s i).take k:=by
 obtain⟨t,ht⟩:=Nr s (10-i) i;rw[show i+(10-i)=10 by omega]at ht;rw[ht,List.take_append_of_le_length hk]
abbrev Ee(pre:List (Fin 10)):List Nat:=pre.map (·.val)
theorem Ic(pre:List (Fin 10)):(Ee pre).length=pre.length:=AX _
theorem VV(pre:List (Fin 10)):∀i∈Ee pre,i<=9:=fun i hi=>by
 obtain⟨x,_,rfl⟩:=List.mem_map.1 hi;have:=x.2;omega
theorem TT(n:Nat)(hn:1<=n)(l Bn n₀:Nat)(M:Int)(J Jx:List (Fin 10)->World->Prop)(hY:∀(pre:List (Fin 10)) (x:Fin 10) (W:World),J pre W->pre.length<10->YieldAt Fence.wide (n-1) prog l #[.int .i64 (x.val:Int)] W fun e W'=>(e= .returned (.bool true)/\J (pre++[x]) W'/\FL n₀ Bn W W')∨(e= .returned (.bool false)/\Jx (pre++[x]) W'))(W:World)(hB:Boxed W Bn 22 (.int .i64 M))(h0:J [] W):CallsIn Fence.wide n prog 128 #[.func (.yield l) #[] #[],.pointer (some ⟨Bn,0,none⟩)] W fun e W'=>(∃v,e= .returned v)/\((∃ys,Ee ys=CV (xOf M) 10/\J ys W')∨(∃pre,(∃i,i<=10/\Ee pre=CV (xOf M) i)/\Jx pre W')):=by
 have HH:=AA (fun i (hi:i<10) W=>Ff M i hi W);refine callsIn_of_wp func128 rfl trivial ?_ rfl;simp only[ntmps128,List.size_toArray,Ah,List.length_nil,Nat.reduceAdd,Nat.reduceSub,Array.replicate_succ,Array.replicate_zero,List.push_toArray,List.append_toArray,List.nil_append,List.cons_append]
 gi_wp2
 gi_loopw [4] (fun iv wr=>∃(i:Nat) (pre:List (Fin 10)),iv= .int .i64 (i:Int)/\i<=10/\Ee pre=CV (xOf M) i/\Boxed wr Bn 22 (.int .i64 M)/\J pre wr) (fun iv _=>10-(intOf iv).toNat)
 case atStart=>exact⟨0,[],rfl,by omega,rfl,hB,h0⟩
 case round=>
  obtain⟨i,pre,rfl,hin,hCc,hBh,hJ⟩:=hrel;have xH:=hBh.cell;by_cases hi:i<10
  ·have di:decide ((i:Int)<10)=true:=by simp;omega
   have H:=AA (HH.out i hi);cases hb:(xOf M).testBit i with
   |true=>
    rw[hb]at H;have zm:Ee (pre++[⟨i,hi⟩])=CV (xOf M) (i+1):=by rw[I4 hb,<-hCc];simp[Ee]
    have hDy:=AA zm;clear zm;obtain⟨fn,tmps,assign,body,hy,hR⟩:=hY pre ⟨i,hi⟩ wr hJ (by have:=GV (xOf M) i;rw[<-hCc,Ic]at this;omega)
    gi_wp2_with (refine⟨trivial,?_⟩;gi_at_call 19;refine(callsIn_wide.2 (H.out _)).mono ?_;rintro en w2 ⟨rfl,hw2⟩;replace hw2:=hw2.symm;subst hw2)
    refine hR.mono ?_;rintro e W3 (⟨rfl,hJ3,hk3⟩|⟨rfl,hx3⟩)
    ·have hC7:Boxed W3 Bn 22 (.int .i64 M):=hk3.2.trans hBh
     gi_wp2
     gi_wp2
     go_roundw
     case rel=>exact⟨i+1,_,by go_num,by omega,hDy.out,hC7,hJ3⟩
     case measure=>simp[intOf];omega
    ·gi_wp2
     refine bodyPost_ret (results_none rfl _ _ _) rfl ?_;exact⟨⟨_,rfl⟩,.inr ⟨_,⟨i+1,by omega,hDy.out⟩,hx3⟩⟩
   |false=>
    rw[hb]at H;have hDy:=AA (hCc.trans (Fg hb).symm)
    gi_wp2_with (refine⟨trivial,?_⟩;gi_at_call 19;refine(callsIn_wide.2 (H.out _)).mono ?_;rintro en w2 ⟨rfl,hw2⟩;replace hw2:=hw2.symm;subst hw2)
    refine⟨fun _ h=>(by cases h),?_⟩
    gi_wp2
    go_roundw
    case rel=>exact⟨i+1,pre,by go_num,by omega,hDy.out,hBh,hJ⟩
    case measure=>simp[intOf];omega
  ·have di:decide ((i:Int)<10)=false:=by simp;omega
   have hAl:i=10:=by omega
   subst hAl
   gi_wp2
   go_end0;exact⟨⟨_,rfl⟩,.inl ⟨_,hCc,hJ⟩⟩
theorem Rj(n:Nat)(hn:1<=n)(Bn n₀:Nat)(M:Int)(w:World)(hBn:Boxed w Bn 22 (.int .i64 M)):SeqStopsK Fence.wide n prog 128 #[.pointer (some ⟨Bn,0,none⟩)] (fun x:Fin 10=>#[Value.int .i64 (x.val:Int)]) (FL n₀ Bn) (fun ys=>Ee ys=CV (xOf M) 10) (fun pre=>∃i,i<=10/\Ee pre=CV (xOf M) i) 10 w:=fun l J Jx W hW _ _ hY h0=>
 TT n hn l Bn n₀ M J Jx hY W ((hW.block Bn hBn.lt).trans hBn) h0
theorem Mj(M:Int)(k:Nat)(hk:k<=10)(w:World):Calls prog 209 #[.int .i64 M,.int .i64 (k:Int)] w fun e w'=>e= .returned (.int .i64 ((IN (xOf M) k:Nat):Int))/\ZN w w':=by
 have hBd:=AA (fun W=>RM M W);refine(callsIn_wide (n:=3)).1 ?_;refine callsIn_of_wp_marks func209 rfl trivial ?_ rfl;simp only[ntmps209,List.size_toArray,Ah,List.length_nil,Nat.reduceAdd,Nat.reduceSub,Array.replicate_succ,Array.replicate_zero,List.push_toArray,List.append_toArray,List.nil_append,List.cons_append]
 gi_wp2_with (refine⟨trivial,?_⟩;gi_at_call 86;refine(callsIn_wide.2 (hBd.out _)).mono ?_;rintro e w' ⟨rfl,rfl⟩)
 have bK:=Boxed.new w 3 (.int .i64 (k:Int));have bO:=Boxed.new (w.alloc (.cells #[.int .i64 (k:Int)] 3)) 22 (.int .i64 0);have bN:=Boxed.new ((w.alloc (.cells #[.int .i64 (k:Int)] 3)).alloc (.cells #[.int .i64 0] 22)) 22 (.int .i64 M);rw[World.size_alloc]at bO;rw[World.size_alloc,World.size_alloc]at bN;have hB0:ZN w (((w.alloc (.cells #[.int .i64 (k:Int)] 3)).alloc (.cells #[.int .i64 0] 22)).alloc (.cells #[.int .i64 M] 22)):=(((AC _ w).alloc (AB _) _).alloc (by simp) _).alloc (by simp;omega) _;obtain⟨W0,hW0⟩:=ZH ((((w.alloc (.cells #[.int .i64 (k:Int)] 3)).alloc (.cells #[.int .i64 0] 22)).alloc (.cells #[.int .i64 M] 22)));have hs0:W0.heap.size=w.heap.size+3:=by rw[hW0];simp
 have bK0:Boxed W0 w.heap.size 3 (.int .i64 (k:Int)):=by rw[hW0];exact(bK.alloc _).alloc _
 have bO0:Boxed W0 (w.heap.size+1) 22 (.int .i64 0):=by rw[hW0];exact bO.alloc _
 rw[<-hW0]at bN hB0 ⊢;clear hW0 bK bO;refine wpIn_rangeFunc_ownG rfl (by omega) (gf:=128) (lb:=#[.pointer (some ⟨w.heap.size+2,0,none⟩)]) rfl trivial (enters_of func128 (by kernel_rfl) rfl)
  (Rj (3-1) (by omega) (w.heap.size+2) w.heap.size M W0 bN) (Kp:=FL w.heap.size (w.heap.size+2)) Ot (fun W l o o' hl hlo hc hwk=>⟨belowK_b (w:=W0) (by omega) W l o o' hl hlo hc hwk,(grownBy_putObj' W l o').block _ (by have:=(Aa.1 hlo).1;omega) (fun e=>by cases e;omega)⟩) (AC _ _) (by intro x;rfl)
  (fun pre W=>(pre.length<=k/\Boxed W w.heap.size 3 (.int .i64 ((k:Int)-pre.length))/\Boxed W (w.heap.size+1) 22 (.int .i64 ((J7 (Ee pre):Nat):Int))/\Boxed W (w.heap.size+2) 22 (.int .i64 M))/\ZN w W)
  (fun c pre W=>(c= .exit 0/\k<pre.length/\Boxed W (w.heap.size+1) 22 (.int .i64 ((J7 ((Ee pre).take k):Nat):Int)))/\ZN w W)
  (OwnFrom.and (OwnFrom.and (ownFrom_pure _ _) (OwnFrom.and (Own.from (boxed_own w.heap.size 3 (fun pre:List (Fin 10)=>.int .i64 ((k:Int)-pre.length))) _) (OwnFrom.and (Own.from (boxed_own (w.heap.size+1) 22 (fun pre:List (Fin 10)=>.int .i64 ((J7 (Ee pre):Nat):Int))) _) (Own.from (boxed_own (w.heap.size+2) 22 (fun _=>.int .i64 M)) _)))) (ownFrom_below (AB _) (by omega)))
  (fun c=>OwnFrom.and (OwnFrom.and (ownFrom_pure _ _) (OwnFrom.and (ownFrom_pure _ _) (Own.from (boxed_own (w.heap.size+1) 22 (fun pre:List (Fin 10)=>.int .i64 ((J7 ((Ee pre).take k):Nat):Int))) _))) (ownFrom_below (AB _) (by omega)))
  ⟨⟨Nat.zero_le _,by simpa using bK0,by simpa[J7]using bO0,bN⟩,hB0⟩
  (fun x=>{tmps:=#[.int .i64 M,.int .i64 (k:Int),undef,.pointer (some ⟨w.heap.size,0,none⟩),.int .i64 0,.pointer (some ⟨w.heap.size+1,0,none⟩),.int .i64 (x.val:Int),.int .i64 M,.func (.func 128) #[] #[.pointer (some ⟨w.heap.size+2,0,none⟩)],.int .i64 (x.val:Int),undef,undef,undef,undef,undef,undef,undef,undef,undef],defers:=[]}) ?assign ?body ?done ?stop
 case assign=>
  intro l x W K hK
  gi_wp2
  exact hK
 case body=>
  rintro l pre x W ⟨⟨hlen,hK,hO,hm⟩,hB⟩ hlt;have hc:=hK.cell;have hfk:=hK.frozen;obtain⟨S,hS⟩:=ZH (J7 (Ee pre));rw[<-hS]at hO;have ho:=hO.cell;have hfo:=hO.frozen;obtain⟨n,hn⟩:=ZH pre.length;rw[<-hn]at hc hK hlen;have yn:S<1024:=by rw[hS];exact RP (VV pre)
  by_cases hk0:n<k
  ·have dk:decide ((k:Int)-(n:Int)<1)=false:=by simp;omega
   have hx9:x.val<=9:=by have:=x.2;omega
   obtain⟨S2,hS2⟩:=ZH (S|||2^x.val);have hor:=QE S x.val yn hx9;rw[<-hS2]at hor;have hwk:IntKind.i64.wrap ((k:Int)-(n:Int)-1)=(k:Int)-((n:Int)+1):=by rw[IntKind.wrap_i64];omega
   have hSn:S2=J7 (Ee (pre++[x])):=by rw[hS2,hS];simp[Ee,J7,List.foldl_append]
   obtain⟨WD,hWD⟩:=ZH (((W.setCell ⟨w.heap.size+1,0,none⟩ (.int .i64 (S2:Int))).setCell ⟨w.heap.size,0,none⟩ (.int .i64 ((k:Int)-((n:Int)+1)))).drew);have hB1:Below w.heap.size W WD:=by rw[hWD];exact(((AC w.heap.size W).setCell (p:=⟨w.heap.size+1,0,none⟩) (Nat.le_succ _) _).setCell (p:=⟨w.heap.size,0,none⟩) (AB _) _).drew
   have hm1:Boxed WD (w.heap.size+2) 22 (.int .i64 M):=by rw[hWD];exact(hm.other (by omega) _).other (by omega) _
   have hO1:Boxed WD (w.heap.size+1) 22 (.int .i64 (S2:Int)):=by rw[hWD];exact(hO.set (.int .i64 (S2:Int))).other (by omega) _
   have hK1:Boxed WD w.heap.size 3 (.int .i64 ((k:Int)-((n:Int)+1))):=by rw[hWD];exact Boxed.set _ (hK.other (by omega) _)
   have hBH:(∀B,KeepsFrom B W WD)/\FL w.heap.size (w.heap.size+2) W WD/\
     ((pre++[x]).length<=k/\Boxed WD w.heap.size 3 (.int .i64 ((k:Int)-(pre++[x]).length))/\Boxed WD (w.heap.size+1) 22 (.int .i64 ((J7 (Ee (pre++[x])):Nat):Int))/\Boxed WD (w.heap.size+2) 22 (.int .i64 M))/\
     ZN w WD:=
    ⟨fun B=>by rw[hWD];exact(((KeepsOthers.setCell _ _ _).trans (KeepsOthers.setCell _ _ _)).trans (KeepsOthers.drew _)).from B,⟨hB1,hm1.trans hm.symm⟩,⟨by rw[AF,List.length_singleton,<-hn];omega,by rw[AF,List.length_singleton,<-hn,Int.natCast_add];exact hK1,by rw[<-hSn];exact hO1,hm1⟩,hB.trans hB1⟩
   have HF:=AA hBH;have HWD:=AA hWD;clear hBH hB1 hm1 hO1 hK1 hS2 hSn hS hn hO hK hm hWD
   gi_wp2
   gi_region
   all_goals gi_wp2
   all_goals (rw[<-HWD.out];exact⟨HF.out.1 _,HF.out.2⟩)
  ·have dk:decide ((k:Int)-(n:Int)<1)=true:=by simp;omega
   have hnk:n=k:=by omega
   have hBH:k<(pre++[x]).length/\Boxed W (w.heap.size+1) 22 (.int .i64 ((J7 ((Ee (pre++[x])).take k):Nat):Int)):=
    ⟨by rw[AF,List.length_singleton,<-hn];omega,by
     rw[show(Ee (pre++[x])).take k=Ee pre by
      rw[show Ee (pre++[x])=Ee pre++[x.val]by simp[Ee],<-hnk,hn,<-Ic pre,List.take_left],<-hS]
     exact hO⟩
   have HF:=AA hBH;clear hBH hS hn hO hK hm
   gi_wp2
   exact⟨KeepsFrom.refl _ _,⟨rfl,HF.out⟩,hB⟩
 case done=>
  rintro D ys W hD hys ⟨⟨hlen,hK,hO,hm⟩,hB⟩ hKD;have hc:=hO.cell
  gi_wp2
  refine⟨by simp,.inl ⟨_,_,rfl,run_takeDeferred hKD,?_⟩⟩;refine⟨_,results_tmp rfl _ _ _,?_,hB.trans (belowK_b (w:=w) (AB _) W D _ _ (by omega) hKD rfl rfl)⟩;unfold IN;rw[<-hys,AT (by rw[Ic];exact hlen)];rfl
 case stop=>
  rintro D c pre W hD ⟨i,hi,hCc⟩ ⟨⟨rfl,hlen,hO⟩,hB⟩ hKD;have hc:=hO.cell
  gi_wp2
  refine⟨by simp,.inl ⟨_,_,rfl,run_takeDeferred hKD,?_⟩⟩;refine⟨_,results_tmp rfl _ _ _,?_,hB.trans (belowK_b (w:=w) (AB _) W D _ _ (by omega) hKD rfl rfl)⟩;unfold IN;rw[TS hi (by rw[<-hCc,Ic];omega)];rfl
end
end Go.Proofs.YtadllffeoibelaaGreat
