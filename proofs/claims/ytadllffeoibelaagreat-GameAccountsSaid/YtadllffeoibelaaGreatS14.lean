/-
  Parts of the proof. No condition.
-/
import Derived.Test.YtadllffeoibelaaGreatS13
open Go.Proofs.Tryz
namespace Go.Proofs.YtadllffeoibelaaGreat
set_option maxRecDepth 100000
set_option maxHeartbeats 32000000
set_option linter.all false
section
open Go.RowKit Go.Shelf
attribute [local go_sem ↓] Go.wp_at_zero Go.wp_at_succ Aj Ao Ap Aq
attribute [local go_sem] Ax BB BC BD AK AR AN
structure S8 (M:Int)(v s:Vt):Prop where
 val:Ab s
 kind:s.kind<=4
 par:s.parent=v.parent
 slot:s.slot=v.slot
 mem:(xOf M).testBit s.signer.toNat=true
theorem Nc(M:Int)(nC:Nat)(A:Option Addr)(c:Nat)(C:List Vt)(v:Vt)(w:World)(hn:C.length=nC)(hr:Rd w w.heap.size A (C.flatMap vtc))(hC:∀s∈C,S8 M v s)(hsm:nC<=1000000)(hv:Ab v)(hk:v.kind<=4)(hsl:(xOf M).testBit v.slot.toNat=true):Calls prog 167 #[.int .i64 M,v.val,.slice A nC c] w fun e w'=>∃b,e= .returned (.bool b)/\ZN w w'/\DI M (CH (Aw (xOf M) 10)) v C b:=by
 obtain⟨n,hn'⟩:=ZH (Aw (xOf M) 10);obtain⟨q,hq⟩:=ZH (CH n);have hEz:n<=10:=by rw[hn'];exact Fw _ 10
 have yt:q<=10:=by rw[hq];unfold CH;omega
 have HSz:Hid (∀W,Calls prog 15 #[.int .i64 M] W fun e w'=>e= .returned (.int .i64 (n:Int))/\w'=W):=fun W=>by rw[hn'];exact Ct M W
 have HQu:Hid (∀W,Calls prog 115 #[.int .i64 (n:Int)] W fun e w'=>e= .returned (.int .i64 (q:Int))/\w'=W):=fun W=>by rw[hq];exact F4 n hEz W
 rw[<-hn',<-hq];obtain⟨W1,hW1⟩:=ZH (w.alloc (Obj.cells v.cells 46));have xQ:ZN w W1:=by rw[hW1];exact(AC _ _).alloc (AB _) _
 have hs1:W1.heap.size=w.heap.size+1:=by rw[hW1];simp
 have hBv:Blk W1 w.heap.size 46 v.cells:=by rw[hW1];exact Blk.new _ _ _
 have zD:Hid (∀W,Calls prog 49 #[v.val] W (Ac W true)):=fun W=>by
  have h:=DA v W ⟨by have:=hv.2.2.2.1;omega,by have:=hv.2.2.2.1;omega⟩;rwa[decide_eq_true hv]at h
 obtain⟨k1,hk1⟩:=ZH ((xOf M).testBit v.signer.toNat);have HA1:Hid (∀W,Calls prog 19 #[.int .i64 M,.int .i64 v.signer] W fun e w'=>e= .returned (.bool k1)/\w'=W):=fun W=>by rw[hk1];exact Do _ _ hv.2.1.1 hv.2.1.2 W
 have hsb:0<=v.slot/\v.slot<=9:=by
  have h1:=hv.2.2.2.2.1;have h2:=hv.2.2.2.2.2.1;have h3:=hv.2.2.2.2.2.2.1;have h4:=hv.1;rcases(by omega:v.kind=1∨v.kind=2∨v.kind=3∨v.kind=4)with h|h|h|h
  ·exact(h1 (.inl h)).1
  ·exact(h1 (.inr h)).1
  ·exact(h2 h).1
  ·exact(h3 h).1
 have HA2:Hid (∀W,Calls prog 19 #[.int .i64 M,.int .i64 v.slot] W fun e w'=>e= .returned (.bool true)/\w'=W):=fun W=>by rw[<-hsl];exact Do _ _ hsb.1 hsb.2 W
 have HF1:Hid (∀W,ZN W1 W->AJ W w.heap.size 0 22=some v.cells/\W.cell? ⟨w.heap.size,0,none⟩=some (I v.kind)/\W.cell? ⟨w.heap.size,1,none⟩=some (I v.slot)/\W.cell? ⟨w.heap.size,4,none⟩=some (I v.signer)):=fun W hW=>⟨(hBv.below hW (by omega)).row 22 rfl,(hBv.below hW (by omega)).cell 0,(hBv.below hW (by omega)).cell 1,(hBv.below hW (by omega)).cell 4⟩
 have dk:decide (v.kind>4)=false:=by simp;omega
 have HW:=AA hW1;have HB1:=AA xQ;have HN:=AA hn;have HR:=AA hr;have HC:=AA hC;have HV:=AA hv;have HK1:=AA hk1;have HBv:=AA hBv;clear hW1 xQ hBv hn hr hC hv hk1 hn' hq hsl hEz;go_enter func167,ntmps167;go_upto_region 1 with fail
 simp only[<-HW.out];have xC:ZN W1 W1:=AC _ _;obtain⟨x0,y0,y1,y4⟩:=HF1.out _ xC;cases k1
 ·go_wp2_with (first
   |(go_at_call 49;refine(zD.out _).mono ?_;rintro en wa ⟨rfl,hba⟩;replace xC:=xC.trans (hba.mono xC.size);obtain⟨x0,y0,y1,y4⟩:=HF1.out _ xC;clear zD)
   |(go_at_call 19;refine(HA1.out _).mono ?_;rintro en w2 ⟨rfl,hw2⟩;replace hw2:=hw2.symm;subst hw2;clear HA1))
  go_ret;refine⟨false,rfl,HB1.out.trans (xC.mono HB1.out.size),?_⟩;unfold DI;split
  ·intro h;cases h
  ·rw[<-HK1.out];rfl
 ·go_upto_region 3 with(first
   |(go_at_call 49;refine(zD.out _).mono ?_;rintro en wa ⟨rfl,hba⟩;replace xC:=xC.trans (hba.mono xC.size);obtain⟨x0,y0,y1,y4⟩:=HF1.out _ xC;clear zD hba)
   |(go_at_call 19;refine(HA1.out _).mono ?_;rintro en w2 ⟨rfl,hw2⟩;replace hw2:=hw2.symm;subst hw2;clear HA1)
   |(go_at_call 19;refine(HA2.out _).mono ?_;rintro en w2 ⟨rfl,hw2⟩;replace hw2:=hw2.symm;subst hw2;clear HA2))
  go_upto_region 4 with(first
   |(go_at_call 15;refine(HSz.out _).mono ?_;rintro en w2 ⟨rfl,hw2⟩;replace hw2:=hw2.symm;subst hw2)
   |(go_at_call 115;refine(HQu.out _).mono ?_;rintro en w2 ⟨rfl,hw2⟩;replace hw2:=hw2.symm;subst hw2))
  obtain⟨pc,hpc⟩:=ZH wa.heap.size;obtain⟨W3,hW3⟩:=ZH (wa.alloc (.cells #[.int .i64 M,.int .i64 (q:Int),.slice none 0 0] 269));have hs3:W3.heap.size=pc+1:=by rw[hW3,hpc];simp
  have hB3:Blk W3 pc 269 #[.int .i64 M,.int .i64 (q:Int),.slice none 0 0]:=by rw[hW3,hpc];exact Blk.new _ _ _
  have hc3:ZN W1 W3:=by rw[hW3];exact xC.alloc xC.size _
  have hpw:w.heap.size<pc:=by have:=xC.size;omega
  have hw3:ZN w W3:=HB1.out.trans (hc3.mono HB1.out.size);simp only[<-hW3,<-hpc];have HC3:=AA hc3;have HW3:=AA hw3;have HP:=AA hpc;clear hW3 hpc xC hc3 hw3 x0 y0 y1 y4 dk HF1 HSz HQu hs1;go_wp2
  go_loopw [39] (fun iv wr=>∃(i:Nat) (vs:Value),iv= .int .i64 (i:Int)/\i<=nC/\Hid (wr.ownsRow (pc+1) 46 22 vs i ((C.take i).flatMap vtc))/\Hid (Blk wr pc 269 #[.int .i64 M,.int .i64 (q:Int),vs])/\Below pc W3 wr/\pc+1<=wr.heap.size) (fun iv _=>nC-(intOf iv).toNat)
  case atStart=>exact⟨0,_,rfl,by omega,by rw[List.take_zero];exact⟨rfl,.inl ⟨rfl,rfl⟩⟩,hB3,AC _ _,by omega⟩
  case round=>
   obtain⟨i,vs,rfl,hin,xK,HBc,hbr,hsz⟩:=hrel;have hbw:ZN w wr:=HW3.out.trans (hbr.mono (by omega));by_cases hi:i<nC
   ·have di:=ZK (show i<nC by omega)
    have ik:(i:Int)<(nC:Int):=by omega
    have hil:i<=1000000:=by omega
    obtain⟨s,hs⟩:∃s,C[i]? =some s:=⟨_,AD (by rw[HN.out];exact hi)⟩;obtain⟨b,o,rfl,hb,xH⟩:=HR.out.cells (by intro e;have:=AY vtc 22 C (Cd C);rw[e,HN.out]at this;simp at this;omega);clear xH;have x1:AJ wr b (o+i*22) 22=some s.cells:=(HR.out.below hbw).voteRow hs;have hcs:=HC.out s (AM hs);have hET:Hid ((C.take (i+1)).flatMap vtc=(C.take i).flatMap vtc++vtc s):=by
     unfold Hid;rw[Ai,hs,Af];simp
    obtain⟨T,hT⟩:=ZH ((C.take i).flatMap vtc);rw[<-hT]at xK hET;clear hs hT;have HVs:Hid (∀W,Calls prog 49 #[s.val] W (Ac W true)):=fun W=>by
     have h:=DA s W ⟨by have:=hcs.val.2.2.2.1;omega,by have:=hcs.val.2.2.2.1;omega⟩;rwa[decide_eq_true hcs.val]at h
    have HAs:Hid (∀W,Calls prog 19 #[.int .i64 M,.int .i64 s.signer] W fun e w'=>e= .returned (.bool true)/\w'=W):=fun W=>by rw[<-hcs.mem];exact Do _ _ hcs.val.2.1.1 hcs.val.2.1.2 W
    have d1:decide (s.kind<=4)=true:=decide_eq_true hcs.kind;have d1':=hcs.kind;have d2:(s.slot==v.slot)=true:=by rw[hcs.slot];simp
    have d3:∀W,(Op.equalIn 10000 24 s.parent.val v.parent.val).run prog W= .ok true W:=fun W=>by have h:=ED s.parent v.parent W 9998;rwa[decide_eq_true hcs.par]at h
    clear hcs;go_upto_region 7 with(refine AI rfl 46 (.tmp 9) (.tmp 42) rfl wr.heap.size s.cells rfl rfl 46 Bi.cells (Blk.new wr _ _) (by rfl) (by kernel_rfl) (fun u hu=>BO s hu) ?_;intro w4 hB4 hg4 xc)
    have hw4:w4.heap.size=wr.heap.size+1:=by rw[xc];simp
    have xM:Hid (w4.ownsRow (pc+1) 46 22 vs i T):=Bb (xK.out.alloc _) hg4 (fun k hk=>by
     injection hk with hk
     subst hk;right;intro e;have:=(xK.out.lt _ e).2;omega)
    have hE6:Blk w4 pc 269 #[.int .i64 M,.int .i64 (q:Int),vs]:=(HBc.out.alloc _).kept hg4 (by intro e;injection e with e;omega);have hb4:Below pc W3 w4:=(hbr.alloc (by omega) _).grown hg4 (by simp;omega) (fun k hk=>by injection hk with hk;subst hk;omega);have hGv:Blk w4 w.heap.size 46 v.cells:=((HBv.out.below HC3.out HBv.out.lt).below hb4 hpw);obtain⟨ps,hps⟩:=ZH wr.heap.size;rw[<-hps]at hB4 hw4 ⊢;have HF4:Hid (∀W,ZN w4 W->AJ W ps 0 22=some s.cells/\AJ W ps 6 8=some s.parent.cells/\AJ W w.heap.size 6 8=some v.parent.cells/\W.cell? ⟨ps,1,none⟩=some (I s.slot)/\W.cell? ⟨w.heap.size,1,none⟩=some (I v.slot)/\W.cell? ⟨ps,0,none⟩=some (I s.kind)/\W.cell? ⟨ps,4,none⟩=some (I s.signer)/\W.cell? ⟨pc,2,none⟩=some vs):=fun W hW=>
     have h1:=hB4.below hW (by omega);have h2:=hGv.below hW (by omega)
     ⟨h1.row 22 rfl,s.row_parent h1,v.row_parent h2,h1.cell 1,h2.cell 1,h1.cell 0,h1.cell 4,(hE6.below hW (by omega)).cell 2⟩
    have HBc4:=AA hE6;have Hb4:=AA hb4;have HPs:Hid (pc+1<=ps/\ps<w4.heap.size):=by unfold Hid;omega
    have xC:ZN w4 w4:=AC _ _;obtain⟨x0,x2,x3,y1,y2,y3,y4,y5⟩:=HF4.out _ xC;clear hB4 hg4 xc x1 xK hbr hE6 hb4 hGv hps HBc hbw hsz;try go_frame
    go_upto_region 8 with(first
     |(go_at_call 49;refine(HVs.out _).mono ?_;rintro en w5 ⟨rfl,hb5⟩;replace xC:=xC.trans (hb5.mono xC.size);clear x0 x2 x3 y1 y2 y3 y4 y5;obtain⟨x0,x2,x3,y1,y2,y3,y4,y5⟩:=HF4.out _ xC;clear hb5)
     |(go_at_call 19;refine(HAs.out _).mono ?_;rintro en w2 ⟨rfl,hw2⟩;replace hw2:=hw2.symm;subst hw2))
    have hs5:=xC.size;have xx:Hid (w5.ownsRow (pc+1) 46 22 vs i T):=Ay xM.out xC (AB _);have hB5:Blk w5 pc 269 #[.int .i64 M,.int .i64 (q:Int),vs]:=HBc4.out.below xC (by have:=HPs.out;omega);have HB5:=AA hB5;have yl:Below pc W3 w5:=Hb4.out.trans (xC.mono (by have:=HPs.out;omega));have Hb35:=AA yl;have hpz:pc+1<=w5.heap.size:=by have:=HPs.out;omega
    clear x2 x3 y1 y2 y3 y4 HF4 hB5 yl xC;try go_frame
    go_wp2_with ((first
     |(refine BS rfl 56 46 (.tmp 72) rfl s.cells rfl underlying56 (by kernel_rfl) (by decide) (by decide) ?_)
     |(at_builtin;refine Ar rfl (.tmp 71) (.tmp 73) _ rfl (pc+1) 46 (.agg Bi.cells) 22 64 underlying56 CG rfl (by decide) vs i T rfl ?r0 (w5.heap.size+1) (some ⟨w5.heap.size,0,none⟩) 1 1 (vtc s) rfl ?r1 ?r2 ?r3 ?r4 ?r5 ?r6 ?_)))
    case r0=>exact xx.out.alloc _
    case r1=>rfl
    case r2=>exact Rd.mk (by omega) (fun j u hu=>by rw[Nat.zero_add,(Blk.new w5 _ _).cell];simpa using hu)
    case r3=>exact fun u hu=>BO s hu
    case r4=>omega
    case r5=>unfold maxLen;omega
    case r6=>simp;omega
    intro v6 w6 xi hg6 hat6;obtain⟨A6,c6,hv6⟩:=Av xi;subst hv6;have hB6:Blk w6 pc 269 #[.int .i64 M,.int .i64 (q:Int),vs]:=(HB5.out.alloc _).kept hg6 (Px xx.out (by omega));have z5:w6.cell? ⟨pc,2,none⟩=some vs:=hB6.cell 2;have z6:w6.frozen? ⟨pc,2,none⟩=false:=hB6.frozen 2;go_wp2;have hg7:w6.grownBy (w6.setCell ⟨pc,2,none⟩ (.slice A6 (i+1) c6)) (some pc):=Bl ⟨rfl,rfl,rfl,AB _,fun _ _ _=>rfl⟩ rfl _;have xL:=Bb xi hg7 (ZJ (.inr (Px xi (by omega)).symm));have hB7:=hB6.put 2 (.slice A6 (i+1) c6);have hb6:Below pc W3 w6:=(Hb35.out.alloc (by omega) _).grown hg6 (by simp;omega) (fun k hk=>by have:=(xx.out.alloc (.cells s.cells 46)).lt k hk;omega);have hb7:=hb6.setCell (p:=⟨pc,2,none⟩) (AB _) (.slice A6 (i+1) c6);have hs6:=hg6.size;simp at hs6;have hs7:=hg7.size;go_roundw
    case rel=>exact⟨i+1,_,by go_num,by omega,by rw[hET.out];exact xL,hB7,hb7,by omega⟩
    case measure=>simp[intOf];omega
   ·have di:=ZL (show nC<=i by omega)
    obtain rfl:nC=i:=by omega
    obtain⟨A8,c8,hv8⟩:=Av xK.out;subst hv8;have hR8:Rd wr wr.heap.size A8 (C.flatMap vtc):=by
     have h:=Rd.of_own xK.out;rwa[show C.take nC=C from by rw[<-HN.out,List.take_length]]at h
    have hv0:=HV.out;have hBZ:Blk wr w.heap.size 46 v.cells:=(HBv.out.below HC3.out HBv.out.lt).below hbr hpw;have hlt:=hBZ.lt;have hCv:∀s∈C,Ab s:=fun s hs=>(HC.out s hs).val
    have zw:Hid (∀W,ZN wr W->Calls prog 222 #[.agg #[.int .i64 M,.int .i64 (q:Int),.slice A8 nC c8],.func (.func 223) #[] #[.pointer (some ⟨w.heap.size,0,none⟩)]] W (Ac W (C.any (Na v)))):=fun W hW=>
     IY M q nC A8 c8 C _ _ _ W HN.out ((hR8.below hW).more hW.size) hCv (Sz v w.heap.size W.heap.size W ⟨by have:=hW.size;omega,hBZ.below hW hlt⟩) hsm
    have HPv:Hid (v.kind=3->∀W,ZN wr W->Calls prog 225 #[.agg #[.int .i64 M,.int .i64 (q:Int),.slice A8 nC c8],v.val] W (Ac W (G7 M q v C))):=fun h3 W hW=>by
     by_cases h:v.round=1
     ·exact PI M q nC A8 c8 C v W HN.out ((hR8.below hW).more hW.size) hCv hsm yt h
     ·exact PJ M q nC A8 c8 C v W HN.out ((hR8.below hW).more hW.size) hCv hsm yt h (hv0.2.2.2.2.2.1 h3).2.1
    have HPc1:Hid (v.choice≠2->∀W,ZN wr W->Calls prog 226 #[.agg #[.int .i64 M,.int .i64 (q:Int),.slice A8 nC c8],v.val] W (Ac W (Ep M q v C (KU v)))):=fun h W hW=>
     PK M q nC A8 c8 C v W HN.out ((hR8.below hW).more hW.size) hCv hsm yt h
    have HPc2:Hid (v.choice=2->∀W,ZN wr W->Calls prog 226 #[.agg #[.int .i64 M,.int .i64 (q:Int),.slice A8 nC c8],v.val] W fun e w'=>∃b,e= .returned (.bool b)/\ZN W w'):=fun h W hW=>
     PM M q nC A8 c8 C v W HN.out ((hR8.below hW).more hW.size) hCv hsm yt h
    have HBw:=AA hbw;have x0:AJ wr w.heap.size 0 22=some v.cells:=hBZ.row 22 rfl;have y0:wr.cell? ⟨w.heap.size,0,none⟩=some (I v.kind):=hBZ.cell 0;have y1:wr.cell? ⟨w.heap.size,1,none⟩=some (I v.slot):=hBZ.cell 1;have y4:wr.cell? ⟨w.heap.size,4,none⟩=some (I v.signer):=hBZ.cell 4;have z0:wr.cell? ⟨pc,0,none⟩=some (.int .i64 M):=HBc.out.cell 0;have z1:wr.cell? ⟨pc,1,none⟩=some (.int .i64 (q:Int)):=HBc.out.cell 1;have z2:wr.cell? ⟨pc,2,none⟩=some (.slice A8 nC c8):=HBc.out.cell 2;have hkk:v.kind=1∨v.kind=2∨v.kind=3∨v.kind=4:=by have:=hv0.1;omega
    clear hR8 hv0 hBZ hlt hCv xK HBc hbr hbw hsz;rcases hkk with h|h|h|h
    ·have e1:(v.kind==1)=true:=by rw[h];rfl
     obtain⟨k2,hk2⟩:=ZH (decide (v.signer=v.slot));have e2:(v.signer==v.slot)=k2:=by rw[hk2];rfl
     have HK2:=AA hk2;have HH:=AA h;clear hk2 h;go_wp2;go_ret;refine⟨k2,rfl,HBw.out,?_⟩;unfold DI EE;rw[if_neg (by rw[HH.out];omega),if_pos HH.out,<-HK1.out,HK2.out];rfl
    ·have e1:(v.kind==1)=false:=by rw[h];rfl
     have e2:(v.kind==2)=true:=by rw[h];rfl
     have HH:=AA h;clear h;go_wp2_with (go_at_call 222;refine(zw.out _ (AC _ _)).mono ?_;rintro en w9 ⟨rfl,hb9⟩)
     go_ret;refine⟨_,rfl,HBw.out.trans (hb9.mono HBw.out.size),?_⟩;unfold DI EE;rw[if_neg (by rw[HH.out];omega),if_neg (by rw[HH.out];omega),if_pos HH.out,<-HK1.out];rfl
    ·have e1:(v.kind==1)=false:=by rw[h];rfl
     have e2:(v.kind==2)=false:=by rw[h];rfl
     have e3:(v.kind==3)=true:=by rw[h];rfl
     have HP3:=AA (HPv.out h);have HH:=AA h;clear h;go_wp2_with (go_at_call 225;refine(HP3.out _ (AC _ _)).mono ?_;rintro en w9 ⟨rfl,hb9⟩)
     go_ret;refine⟨_,rfl,HBw.out.trans (hb9.mono HBw.out.size),?_⟩;unfold DI EE;rw[if_neg (by rw[HH.out];omega),if_neg (by rw[HH.out];omega),if_neg (by rw[HH.out];omega),if_pos HH.out,<-HK1.out];rfl
    ·have e1:(v.kind==1)=false:=by rw[h];rfl
     have e2:(v.kind==2)=false:=by rw[h];rfl
     have e3:(v.kind==3)=false:=by rw[h];rfl
     have HH:=AA h;clear h;by_cases hc2:v.choice=2
     ·have HP4:=AA (HPc2.out hc2);have HC2:=AA hc2;clear hc2;go_wp2_with (go_at_call 226;refine(HP4.out _ (AC _ _)).mono ?_;rintro en w9 ⟨k9,rfl,hb9⟩)
      go_ret;refine⟨k9,rfl,HBw.out.trans (hb9.mono HBw.out.size),?_⟩;unfold DI;rw[if_pos ⟨HH.out,HC2.out⟩,<-HK1.out];exact fun _=>rfl
     ·have HP4:=AA (HPc1.out hc2);have HC2:=AA hc2;clear hc2;go_wp2_with (go_at_call 226;refine(HP4.out _ (AC _ _)).mono ?_;rintro en w9 ⟨rfl,hb9⟩)
      go_ret;refine⟨_,rfl,HBw.out.trans (hb9.mono HBw.out.size),?_⟩;unfold DI EE;rw[if_neg (fun h=>HC2.out h.2),if_neg (by rw[HH.out];omega),if_neg (by rw[HH.out];omega),if_neg (by rw[HH.out];omega),<-HK1.out];rfl
end
section
open Go.RowKit
attribute [local go_sem ↓] Go.wp_at_zero Go.wp_at_succ Aj Ao Ap Aq
attribute [local go_sem] Ax BB BC BD AK AR AN
def PN(M:Int)(O:List Vt):Prop:=∀k x,O[k]? =some x->DI M (CH (Aw (xOf M) 10)) x (O.take k) true
theorem PN.nil(M:Int):PN M []:=fun k x h=>by simp at h
theorem PN.snoc{M:Int}{O:List Vt}{x:Vt}(h:PN M O)(hx:DI M (CH (Aw (xOf M) 10)) x O true):PN M (O++[x]):=by
 intro k y hy;by_cases hk:k<O.length
 ·rw[List.getElem?_append_left hk]at hy;rw[List.take_append_of_le_length (Nat.le_of_lt hk)];exact h k y hy
 ·rw[List.getElem?_append_right (by omega)]at hy;have h0:k-O.length=0:=by
   have:=(AE.1 hy).1;simpa using this
  rw[h0]at hy;simp only[List.getElem?_cons_zero,Option.some.injEq]at hy;have hkO:k=O.length:=by omega
  subst hkO;rw[<-hy,List.take_append_of_le_length (AB _),List.take_length];exact hx
theorem Lz{M:Int}{q:Nat}{v:Vt}{C:List Vt}(h:DI M q v C true):(xOf M).testBit v.signer.toNat=true:=by
 unfold DI at h;split at h
 ·exact h rfl
 ·rw[eq_comm,Bool.and_eq_true]at h;exact h.1
def YF(s:Int)(v:Vt):Prop:=Ab v/\v.kind<=4/\v.slot=s
def S9(M:Int)(p:Nm)(s:Int)(D O:List Vt):Prop:=PN M O/\∀x∈O,x∈D/\YF s x/\x.parent=p/\(xOf M).testBit x.signer.toNat=true
end
section
open Go.RowKit Go.Shelf
def Da(M:Int)(O:List Vt)(k:Oc)(S:Nat):Prop:=
 S<1024/\∀i,i<10->S.testBit i=true->(xOf M).testBit i=true/\∃w∈O,w.signer=(i:Int)/\w.kind=4/\w.round=k.round/\w.choice=k.choice/\w.value=k.value
theorem Da.zero(M:Int)(O:List Vt)(k:Oc):Da M O k 0:=⟨by decide,fun i _ h=>by simp at h⟩
theorem Da.or{M:Int}{O:List Vt}{k:Oc}{S s:Nat}(h:Da M O k S)(hs:s<=9)(hm:(xOf M).testBit s=true)(hw:∃w∈O,w.signer=(s:Int)/\w.kind=4/\w.round=k.round/\w.choice=k.choice/\w.value=k.value):Da M O k (S|||2^s):=by
 refine⟨Gq S s h.1 hs,fun i hi hb=>?_⟩;rw[Nat.testBit_or,Bool.or_eq_true,Nat.testBit_two_pow]at hb;rcases hb with hb|hb
 ·exact h.2 i hi hb
 ·have:s=i:=by simpa using hb
  subst this;exact⟨hm,hw⟩
def C3(M:Int)(s:Int)(O:List Vt)(kl:List (Oc×Value)):Prop:=
 ∀p∈kl,p.1.slot=s/\p.1.choice≠2/\∃S:Nat,p.2= .int .i64 (S:Int)/\Da M O p.1 S
theorem C3.nil(M s:Int)(O:List Vt):C3 M s O []:=fun p h=>by cases h
theorem C3.upd{M s:Int}{O:List Vt}{kl kl':List (Oc×Value)}{k:Oc}{S:Nat}(h:C3 M s O kl)(hu:Upd k (.int .i64 (S:Int)) kl kl')(hk:k.slot=s)(hc:k.choice≠2)(hS:Da M O k S):C3 M s O kl':=by
 intro p hp;rcases hu p hp with h1|rfl
 ·exact h p h1
 ·exact⟨hk,hc,S,rfl,hS⟩
theorem FO{κ:Type}[DecidableEq κ](k:κ)(v:Value):∀l:List (κ×Value),BQ k l=some v->(k,v)∈l
 |[],h=>by simp[BQ]at h
 |p::r,h=>by
  rw[BQ]at h;split at h
  ·rename_i hk
   injection h with h
   rw[hk,<-h];exact BF
  ·exact List.mem_cons_of_mem _ (FO k v r h)
theorem C3.look{M s:Int}{O:List Vt}{kl:List (Oc×Value)}(h:C3 M s O kl)(k:Oc):∃S:Nat,(BQ k kl).getD (.int .i64 0)= .int .i64 (S:Int)/\Da M O k S:=by
 rcases ha:BQ k kl with _|v
 ·exact⟨0,rfl,Da.zero M O k⟩
 ·obtain⟨_,_,S,hS,hm⟩:=h (k,v) (FO k v kl ha);exact⟨S,by rw[Option.getD_some];exact hS,hm⟩
theorem C3.out{M s:Int}{O:List Vt}{kl:List (Oc×Value)}(h:C3 M s O kl){k:Oc}{S:Nat}(hk:(k,Value.int .i64 (S:Int))∈kl)(hq:CH (Aw (xOf M) 10)<=Aw (xOf (S:Int)) 10):k.slot=s/\NC (xOf M) O k.round k.choice k.value:=by
 obtain⟨h1,h2,S',hS',hm⟩:=h _ hk;have e:S=S':=by
  simp only[Value.int.injEq,true_and]at hS';omega
 subst e;rw[EO S hm.1]at hq;exact⟨h1,h2,S,fun i hi hb=>(hm.2 i hi hb).1,hq,fun i hi hb=>(hm.2 i hi hb).2⟩
theorem Ge(w:World):(zeroValue 22).run prog w= .ok (.int .i64 0) w:=by kernel_rfl
theorem Nd{o:Oper}{a:Act}(s r c:Int)(v:Nm)(x0 x1 x2 x3:Operand)(ho:o.op= .build 142 #[(0,x0),(1,x1),(2,x2),(3,x3)])(h0:a.eval x0=I s)(h1:a.eval x1=I r)(h2:a.eval x2=I c)(h3:a.eval x3= .agg v.cells)(w:World):(execOp a.eval o).run prog w= .ok (.value (Oc.mk s r c v).val) w:=by
 unfold execOp;rw[ho];simp only[List.map_toArray,List.map_cons,List.map_nil,h0,h1,h2,h3];go_simp
theorem IZ{o:Oper}{a:Act}(x:Operand)(s:Nat)(ho:o.op= .binOp .shl 22 (.const (.int .i64 1)) x 3)(hx:a.eval x= .int .i64 (s:Int))(hs:s<=9)(w:World):(execOp a.eval o).run prog w= .ok (.value (.int .i64 ((2^s:Nat):Int))) w:=by
 have he:a.eval (.const (.int .i64 1))= .int .i64 1:=rfl;unfold execOp;rw[ho];simp only[hx,he];go_simp;clear ho hx he;rcases(by omega:s=0∨s=1∨s=2∨s=3∨s=4∨s=5∨s=6∨s=7∨s=8∨s=9)with rfl|rfl|rfl|rfl|rfl|rfl|rfl|rfl|rfl|rfl <;> rfl
theorem Ia{o:Oper}{a:Act}(x y:Operand)(m s:Nat)(ho:o.op= .binOp .or 22 x y 22)(hx:a.eval x= .int .i64 (m:Int))(hy:a.eval y= .int .i64 ((2^s:Nat):Int))(hm:m<1024)(hs:s<=9)(w:World):(execOp a.eval o).run prog w= .ok (.value (.int .i64 ((m|||2^s:Nat):Int))) w:=by
 have h2:2^s<1024:=Nat.pow_lt_pow_right (n:=10) (by omega) (by omega);have h:=NB m (2^s) (by omega) (by omega);obtain⟨z,hz⟩:∃z:Int,z=((2^s:Nat):Int):=⟨_,rfl⟩;obtain⟨z2,hz2⟩:∃z:Int,z=((m|||2^s:Nat):Int):=⟨_,rfl⟩;rw[<-hz,<-hz2]at h;rw[<-hz]at hy;rw[<-hz2];unfold execOp;rw[ho];simp only[hx,hy];clear hz hz2;go_simp
theorem CC{op:Oper}{a:Act}{w w':World}{K:Act->World->Prop}{Q:Exit->Act->World->Prop}(v:Value)(hr:(execOp a.eval op).run prog w= .ok (.value v) w')(hK:K (a.put op.dst v) w'):op.wp prog a w K Q:=by
 unfold Oper.wp;rw[hr,Oper.upon_value];exact hK
theorem Md{op:Oper}{a:Act}{w w':World}{K:Act->World->Prop}{Q:Exit->Act->World->Prop}(hr:(execOp a.eval op).run prog w= .ok .skip w')(hK:K (a.put op.dst undef) w'):op.wp prog a w K Q:=by
 unfold Oper.wp;rw[hr];exact hK
theorem L3{o:Oper}{a:Act}(x y:Operand)(ho:o.op= .lookup 178 x y false)(m:Nat)(k:Oc)(hx:a.eval x= .map (some m))(hy:a.eval y=k.val){w:World}{kl:List (Oc×Value)}(h:Bp Oc.val w m kl):(execOp a.eval o).run prog w= .ok (.value ((BQ k kl).getD (.int .i64 0))) w:=by
 have hr:=h.is.look Ws underlying178 (.int .i64 0) (Ge w) k false;unfold execOp;rw[ho];simp only[hx,hy];simp only[Bool.false_eq_true,if_false]at hr;simp[hr,Result.andThen]
theorem Rng.le{enc:Oc->Value}{w:World}{m r cnt:Nat}{l:List (Oc×Value)}(h:Rng enc w m r l cnt):cnt<=l.length:=by
 obtain⟨es,c,s,c0,seen,_,_,h3,_,_,_,_,h8⟩:=h;rw[h8];unfold leftOf;have h4:=congrArg List.length h3;simp only[AX,Array.length_toList]at h4;rw[<-h4];exact Array.size_filter_le
theorem Rng.ne_row{enc:Oc->Value}{w:World}{m r cnt base n size:Nat}{e:TypeId}{v:Value}{xs:List Value}{l:List (Oc×Value)}(h:Rng enc w m r l cnt)(ho:w.ownsRow base e size v n xs):some m≠v.ownBlock/\some r≠v.ownBlock:=by
 obtain⟨es,c,s,c0,seen,h1,h2,_⟩:=h;rcases ho.2 with⟨rfl,_⟩|⟨g,cap,cur,rfl,_,hh,_⟩
 ·exact⟨by simp[Value.ownBlock],by simp[Value.ownBlock]⟩
 ·refine⟨fun he=>?_,fun he=>?_⟩
  ·have:m=g:=by simpa[Value.ownBlock]using he
   subst this;rw[h1]at hh;cases hh
  ·have:r=g:=by simpa[Value.ownBlock]using he
   subst this;rw[h2]at hh;cases hh
def XL(D:List Oc)(w:World)(pb:Nat)(v:Value)(e:Ending)(w3:World):Prop:=
 e= .returned (.tuple #[])/\Blk w3 pb 103 #[v]/\ZN w w3/\∃(l3:List Oc),l3.Perm D/\w3.ownsRow w.heap.size 142 11 v l3.length (l3.flatMap occ)
theorem JE{w:World}{b n:Nat}{e:TypeId}{v:Value}{m:Nat}{xs:List Value}(h:w.ownsRow b e m v n xs):(v= .slice none 0 0/\n=0/\xs=[])∨∃g cap T,v= .slice (some ⟨g,0,none⟩) n cap/\b<=g/\Blk w g e (xs++T).toArray/\n<=cap/\cap<=maxLen/\xs.length+T.length=cap*m:=by
 rcases h.2 with⟨hv,h0⟩|⟨g,cap,cur,hv,hg,hh,h1,h2,h3,ht⟩
 ·exact .inl ⟨hv,h0,AV (by rw[h.1,h0,Nat.zero_mul])⟩
 ·refine .inr ⟨g,cap,cur.toList.drop (n*m),hv,hg,?_,h1,h2,?_⟩
  ·rw[<-ht,An];exact hh
  ·rw[<-ht,<-AF,An,Array.length_toList,h3]
theorem VL(w W:World)(pb:Nat)(v:Value)(D:List Oc)(xA:W.ownsRow w.heap.size 142 11 v D.length (D.flatMap occ))(hb:ZN w W)(hpb:Blk W pb 103 #[v])(hsm:D.length<=1000000):Calls prog 116 #[.iface 103 v,.func (.func 117) #[] #[.pointer (some ⟨pb,0,none⟩)]] W (XL D w pb v):=by
 rcases JE xA with⟨rfl,h0,_⟩|⟨g,cap,T,rfl,hg,xm,zx,hAv,hlen⟩
 ·refine(JB Sq 0 W).mono ?_;rintro e w3 ⟨rfl,hb3⟩;have hD:D=[]:=AV h0;subst hD;exact⟨rfl,hpb.below hb3 hpb.lt,hb.trans (hb3.mono hb.size),[],List.Perm.refl _,by simp,.inl ⟨rfl,rfl⟩⟩
 ·have hne:pb≠g:=by
   intro e;subst e;unfold Blk at hpb xm;rw[hpb]at xm;injection xm with hh
   injection hh with _ ht
   exact absurd ht (by decide)
  refine(JA Sq ⟨occ,T⟩ (fun _=>rfl) (by decide) (fun x v hv=>NA x hv) (fun args W=>O6 args W) D g D.length cap W (O4 T pb g D.length cap D W hpb hne rfl) xm rfl hsm).mono ?_;rintro e w3 ⟨rfl,l3,hr3,hp3⟩;have hl3:=hp3.length_eq;have f3:=AY occ 11 l3 (Ix l3);have fD:=AY occ 11 D (Ix D);refine⟨rfl,hr3.box hpb hne,hb.grown hr3.kept hb.size (ZJ hg),l3,hp3,f3,.inr ⟨g,cap,_,by rw[hl3],hg,hr3.blk,by rw[hl3];exact zx,hAv,?_,?_⟩⟩
  ·show(l3.flatMap occ++T).length=_;rw[AF,f3,<-hlen,fD,hl3]
  ·show(l3.flatMap occ++T).take (l3.length*11)=_;rw[<-f3,List.take_left]
end
section
open Go.RowKit
attribute [local go_sem ↓] Go.wp_at_zero Go.wp_at_succ Aj Ao Ap Aq Dv
attribute [local go_sem] Ax BB BC BD Fd AK AR AN
instance:Inhabited Vl:=⟨Vl.zero⟩
theorem B3.vl{T:List Value}{w0 W:World}{g i:Nat}{l:List Vl}{x:Vl}(h:B3 ⟨vlc,T⟩ 258 w0 g l W)(hx:l[i]? =some x):AJ W g (i*9) 9=some x.cells:=by
 refine Bq (fun j u hu=>?_) rfl;have:=Ek (c:=⟨vlc,T⟩) (m:=9) (fun _=>rfl) h.blk i j x u hx (by simpa using hu);rwa[Nat.zero_add]at this
theorem RZ(T:List Value)(B g n c:Nat)(l0:List Vl)(w0:World)(hB:Blk w0 B 261 #[.slice (some ⟨g,0,none⟩) n c])(hne:B≠g)(hn:l0.length=n):G9 ⟨vlc,T⟩ 258 w0 g l0 II 251 #[.pointer (some ⟨B,0,none⟩)]:=by
 intro W l i j x y hr hp hx hy;have hi:i<n:=by rw[<-hn,<-hp.length_eq];exact(AE.1 hx).1
 have hj:j<n:=by rw[<-hn,<-hp.length_eq];exact(AE.1 hy).1
 have hc0:W.cell? ⟨B,0,none⟩=some (.slice (some ⟨g,0,none⟩) n c):=(hr.box hB hne).cell 0;have xT:Hid (∀V,ZN W V->V.cell? ⟨B,0,none⟩=some (.slice (some ⟨g,0,none⟩) n c)/\AJ V g (i*9) 9=some x.cells/\AJ V g (j*9) 9=some y.cells):=
  fun V hV=>⟨(hV.cell (p:=⟨B,0,none⟩) (hr.box hB hne).lt).trans hc0,BH (hr.vl hx) hV hr.blk.lt,BH (hr.vl hy) hV hr.blk.lt⟩
 have HL:Hid (∀V,ZN W V->Calls prog 252 #[x.val,y.val] V (Ac V (II x y))):=
  fun V hV=>QD x y V
 obtain⟨r,hrr⟩:=ZH (II x y);rw[<-hrr]at HL ⊢;clear hrr hc0 hr hp hx hy hB hn;have hbw:ZN W W:=AC _ _;show Calls prog 251 #[.int .i64 (i:Int),.int .i64 (j:Int),.pointer (some ⟨B,0,none⟩)] W _;go_enter func251,ntmps251;go_upto_region 1 with fail
 refine rgD (fun w'=>w'.cell? ⟨B,0,none⟩=some (.slice (some ⟨g,0,none⟩) n c)/\AJ w' g (i*9) 9=some x.cells/\AJ w' g (j*9) 9=some y.cells) (xT.out _ hbw.drew) fun _=>?_
 iterate 8 (refine tkA ?_;go_frame)
 refine rd1 8 fun K hK=>?_
 go_simp;refine(HL.out _ hbw.drew).mono ?_;rintro en w2 ⟨rfl,hb2⟩;have xB:=hbw.drew.trans (hb2.mono hbw.size);go_wp2_with fail
 refine hK.out _ _ (xT.out _ xB) (fun _=>?_);clear hK K;try go_frame
 refine tkD 5 9 ?_;go_frame;refine dnD ?_;go_wp2;go_ret;exact⟨rfl,xB⟩
noncomputable def vlT:TypeInfo:=(prog.info? 261).get (by kernel_rfl)
noncomputable def vlE:TypeInfo:=(prog.info? 258).get (by kernel_rfl)
theorem YG(n:Nat)(h:2<=n):Lib.swapperK n vlE 25=9:=by
 have a:vlE.hasPointers=false:=by kernel_rfl
 have b:vlE.bytes=16:=by kernel_rfl
 have c0:(n==0)=false:=by simp;omega
 have c1:(n==1)=false:=by simp;omega
 unfold Lib.swapperK;rw[a,b,c0,c1];rfl
theorem XM:prog.info? 261=some vlT:=by kernel_rfl
theorem XN:prog.info? 258=some vlE:=by kernel_rfl
theorem TA:vlT.desc= .slice 258:=by kernel_rfl
theorem TB:vlE.size=9:=by kernel_rfl
theorem TC:SlT 261 258 9:=
 ⟨⟨vlT,XM,TA⟩,by kernel_rfl,⟨vlE,XN,TB,YG⟩,fun _=>by kernel_rfl,fun _=>by kernel_rfl⟩
theorem PO(args:Array Value)(W:World):(callFunc 251 args).run prog W= .ok (.enter 251 args) W:=enters_of func251 (by kernel_rfl) rfl args W
def YH(D:List Vl)(w:World)(pb:Nat)(v:Value)(e:Ending)(w3:World):Prop:=
 e= .returned (.tuple #[])/\Blk w3 pb 261 #[v]/\ZN w w3/\∃(l3:List Vl),l3.Perm D/\w3.ownsRow w.heap.size 258 9 v l3.length (l3.flatMap vlc)
theorem XO(w W:World)(pb:Nat)(v:Value)(D:List Vl)(xA:W.ownsRow w.heap.size 258 9 v D.length (D.flatMap vlc))(hb:ZN w W)(hpb:Blk W pb 261 #[v])(hsm:D.length<=1000000):Calls prog 116 #[.iface 261 v,.func (.func 251) #[] #[.pointer (some ⟨pb,0,none⟩)]] W (YH D w pb v):=by
 rcases JE xA with⟨rfl,h0,_⟩|⟨g,cap,T,rfl,hg,xm,zx,hAv,hlen⟩
 ·refine(JB TC 0 W).mono ?_;rintro e w3 ⟨rfl,hb3⟩;have hD:D=[]:=AV h0;subst hD;exact⟨rfl,hpb.below hb3 hpb.lt,hb.trans (hb3.mono hb.size),[],List.Perm.refl _,by simp,.inl ⟨rfl,rfl⟩⟩
 ·have hne:pb≠g:=by
   intro e;subst e;unfold Blk at hpb xm;rw[hpb]at xm;injection xm with hh
   injection hh with _ ht
   exact absurd ht (by decide)
  refine(JA TC ⟨vlc,T⟩ (fun _=>rfl) (by decide) (fun x v hv=>FI x hv) (fun args W=>PO args W) D g D.length cap W (RZ T pb g D.length cap D W hpb hne rfl) xm rfl hsm).mono ?_;rintro e w3 ⟨rfl,l3,hr3,hp3⟩;have hl3:=hp3.length_eq;have f3:=AY vlc 9 l3 (Fu l3);have fD:=AY vlc 9 D (Fu D);refine⟨rfl,hr3.box hpb hne,hb.grown hr3.kept hb.size (ZJ hg),l3,hp3,f3,.inr ⟨g,cap,_,by rw[hl3],hg,hr3.blk,by rw[hl3];exact zx,hAv,?_,?_⟩⟩
  ·show(l3.flatMap vlc++T).length=_;rw[AF,f3,<-hlen,fD,hl3]
  ·show(l3.flatMap vlc++T).take (l3.length*9)=_;rw[<-f3,List.take_left]
end
section
open Go.RowKit Go.Shelf
section
variable {α:Type}{c:Be α}{t:TypeId}{w0:World}{g n f F:Nat}{sb lb:Array Value}{lt:α->α->Bool}{l0:List α}
def TD(c:Be α)(t:TypeId)(w0:World)(g n:Nat)(f:Nat)(sb:Array Value):Prop:=
 ∀(W:World) (l:List α) (i j:Nat),B3 c t w0 g l W->l.length=n->i<n->j<n->i≠j->
  ∃W',(callFunc f (#[.int .i64 (i:Int),.int .i64 (j:Int)]++sb)).run prog W= .ok (.value (.tuple #[])) W'/\B3 c t W g (Ci l i j) W'
def TE(c:Be α)(t:TypeId)(g:Nat)(lt:α->α->Bool)(l:List α)(a b:Nat)(w:World)(e:Ending)(w':World):Prop:=
 e= .returned (.tuple #[])/\∃l',B3 c t w g l' w'/\CK l l' a b/\Asc lt (seg l' a b)
theorem Nf(eg:∀args w,(callFunc F args).run prog w= .ok (.enter F args) w)(ho:Ord lt)(hle:G9 c t w0 g l0 lt F lb)(hsw:TD c t w0 g n f sb)(a b:Nat)(l:List α)(w:World)(xV:B3 c t w0 g l w)(hp:l.Perm l0)(hn:l.length=n)(xS:n<=1000000)(hab:a<=b)(hb:b<=n):Calls prog 179 #[.agg #[.func (.func F) #[] lb,.func (.func f) #[] sb],.int .i64 (a:Int),.int .i64 (b:Int)] w (TE c t g lt l a b w):=by
 have HO:=AA ho;clear ho;have HLe:=AA hle;clear hle;have HSw:=AA hsw;clear hsw;have xh:=AA xV;clear xV;have HP:=AA hp;clear hp;have HN:=AA hn;clear hn;have hgw:g<w.heap.size:=xh.out.blk.lt;go_enter func179,ntmps179;go_wp2
 go_loopw [6] (fun iv wr=>∃(i:Nat) (l':List α),iv= .int .i64 (i:Int)/\a<i/\(i<=b∨b=a)/\B3 c t (w.alloc (.cells #[.func (.func F) #[] lb,.func (.func f) #[] sb] 190)) g l' wr/\CK l l' a b/\Asc lt (seg l' a i)) (fun iv _=>b+1-(intOf iv).toNat)
 case atStart=>
  refine⟨a+1,l,by go_num,by omega,by omega,B3.self (xh.out.blk.alloc _),CK.refl _ _ _,?_⟩;rcases hs:seg l a (a+1)with _|⟨x,_|⟨y,r⟩⟩
  ·exact Asc.nil
  ·exact Asc.one _
  ·have:=congrArg List.length hs;unfold seg at this;rw[List.length_drop,AZ]at this;simp at this;omega
 case round=>
  obtain⟨i,l',rfl,hai,hib,hr,hk,hs⟩:=hrel;have HR:=AA hr;have HK:=AA hk;have HS:=AA hs;clear hr hk hs;by_cases hi:i<b
  ·have di:=ZK (show i<b by omega)
   have HL':Hid (l'.length=n):=HK.out.len.trans HN.out;go_wp2
   go_loopw [7] (fun jv wr=>∃(j:Nat) (lj:List α),jv= .int .i64 (j:Int)/\a<=j/\j<=i/\B3 c t (w.alloc (.cells #[.func (.func F) #[] lb,.func (.func f) #[] sb] 190)) g lj wr/\DQ lt l' a i j lj) (fun jv _=>(intOf jv).toNat)
   case atStart=>exact⟨i,l',rfl,by omega,by omega,HR.out,DQ.start (by omega) (by rw[HL'.out];omega) HS.out⟩
   case round=>
    obtain⟨j,lj,rfl,haj,hji,hr,hBa⟩:=hrel;have hlj:lj.length=n:=hBa.len.1.trans HL'.out;have HLj:=AA hlj;have HI:=AA hBa;have HRj:=AA hr;have c0:wr.cell? ⟨w.heap.size,0,none⟩=some (.func (.func F) #[] lb):=(HRj.out.box (Blk.new w _ _) (by omega)).cell 0;clear hr hBa hlj;have HPj:Hid (lj.Perm l0):=(HI.out.perm.perm.trans HK.out.perm).trans HP.out;have HKj:Hid (CK l lj a b):=HK.out.trans (HI.out.perm.wider (AB _) (by omega));by_cases hja:a<j
    ·have dj:=ZK (show a<j by omega)
     obtain⟨x,y,hx,hy,hAw⟩:=HI.out.two hja;have hl:=fun W (hW:B3 c t (w.alloc (.cells #[.func (.func F) #[] lb,.func (.func f) #[] sb] 190)) g lj W)=>HLe.out W lj j (j-1) x y (xh.out.trans hW.off) HPj.out hx hy
     rw[show(((j-1:Nat):Int))=(j:Int)-1 from by omega]at hl;have HL:=AA hl;have HSt:=AA hAw;have HX:=AA hx;have HY:=AA hy;clear hl hAw hx hy;cases hlv:lt x y with
     |true=>
      rw[hlv]at HL;go_wp2_with fail
      refine(HL.out _ HRj.out).mono ?_;rintro e w2 ⟨rfl,hb2⟩;have HR2:=AA (HRj.out.below hb2);have c1:w2.cell? ⟨w.heap.size,1,none⟩=some (.func (.func f) #[] sb):=(HR2.out.box (Blk.new w _ _) (by omega)).cell 1;obtain⟨W3,xN,hAx⟩:=HSw.out w2 lj j (j-1) (xh.out.trans HR2.out.off) HLj.out (by omega) (by omega) (by omega);rw[show(((j-1:Nat):Int))=(j:Int)-1 from by omega]at xN;have HR3:=AA (HR2.out.trans hAx);clear hAx hb2;go_wp2;go_roundw
      case rel=>exact⟨j-1,Ci lj j (j-1),by go_num,by omega,by omega,HR3.out,HSt.out hlv⟩
      case measure=>simp[intOf];omega
     |false=>
      rw[hlv]at HL;go_wp2_with fail
      refine(HL.out _ HRj.out).mono ?_;rintro e w2 ⟨rfl,hb2⟩;have HR2:=AA (HRj.out.below hb2);clear hb2;go_wp2;go_roundw
      case rel=>exact⟨i+1,lj,by go_num,by omega,by omega,HR2.out,HKj.out,HI.out.done HO.out (.inr ⟨x,y,HX.out,HY.out,hlv⟩)⟩
      case measure=>simp[intOf];omega
    ·have dj:=ZL (show j<=a by omega)
     go_wp2;go_roundw
     case rel=>exact⟨i+1,lj,by go_num,by omega,by omega,HRj.out,HKj.out,HI.out.done HO.out (.inl (by omega))⟩
     case measure=>simp[intOf];omega
  ·have di:=ZL (show b<=i by omega)
   go_wp2;go_end0;refine⟨rfl,l',HR.out.off,HK.out,?_⟩;rcases Nat.lt_or_ge b i with h|h
   ·rw[Bz l' (.inr (by omega))];exact Asc.nil
   ·have e:b=i:=by omega
    rw[e];exact HS.out
theorem Ng(eg:∀args w,(callFunc F args).run prog w= .ok (.enter F args) w)(ho:Ord lt)(hle:G9 c t w0 g l0 lt F lb)(hsw:TD c t w0 g n f sb)(l:List α)(w:World)(xV:B3 c t w0 g l w)(hp:l.Perm l0)(hn:l.length=n)(xS:n<=12)(L:Int):Calls prog 169 #[.agg #[.func (.func F) #[] lb,.func (.func f) #[] sb],.int .i64 0,.int .i64 (n:Int),.int .i64 L] w (TE c t g lt l 0 n w):=by
 obtain⟨B,hB⟩:=ZH (w.alloc (.cells #[.func (.func F) #[] lb,.func (.func f) #[] sb] 190));have hrB:B3 c t w0 g l B:=by rw[hB];exact xV.alloc _
 have hBx:Blk B w.heap.size 190 #[.func (.func F) #[] lb,.func (.func f) #[] sb]:=by rw[hB];exact Blk.new _ _ _
 have HI:=AA (Nf eg ho hle hsw 0 n l B hrB hp hn (by omega) (Nat.zero_le _) (AB _));have yH:Hid (∀V l',B3 c t B g l' V->B3 c t w g l' V):=fun V l' h=>by rw[hB]at h;exact h.off
 have c0:B.cell? ⟨w.heap.size,0,none⟩=some (.func (.func F) #[] lb):=hBx.cell 0;have c1:B.cell? ⟨w.heap.size,1,none⟩=some (.func (.func f) #[] sb):=hBx.cell 1;have HB:=AA hB;clear eg ho hle hsw xV hp hn hB hrB hBx;have d12:decide ((n:Int)<=12)=true:=by simp;omega
 have d12':decide ((n:Int)-0<=12)=true:=by simp;omega
 go_enter func169,ntmps169;go_upto_region 1 with fail
 simp only[<-HB.out];go_upto_region 3 with fail
 go_loopw [1,2,3,8,9] (fun av bv lv xv yv wr=>av= .int .i64 0/\bv= .int .i64 (n:Int)/\lv= .int .i64 L/\xv= .bool true/\yv= .bool true/\wr=B) (fun _ _ _ _ _ _=>0)
 case atStart=>exact⟨rfl,rfl,rfl,rfl,rfl,rfl⟩
 case round=>
  obtain⟨rfl,rfl,rfl,rfl,rfl,hwr⟩:=hrel;subst hwr;go_wp2_with fail
  refine HI.out.mono ?_;rintro en w2 ⟨rfl,l',h1,h2⟩;go_wp2;refine bodyPost_ret (results_none rfl _ _ _) rfl ?_;exact⟨rfl,l',yH.out _ _ h1,h2⟩
end
theorem Ra{α:Type}[Inhabited α](n cap:Nat){c:Be α}{m g:Nat}{e:TypeId}{f:Nat}{gS:Bool}(H:Lit c.enc m e f gS)(t:TypeId)(w0:World):TD c t w0 g n f #[.slice (some ⟨g,0,none⟩) n cap,typeHandle prog e]:=by
 intro W l i j hr hn hi hj _;have hi':i<l.length:=by omega
 have hj':j<l.length:=by omega
 have hm:=H.len;have xN:=M9 (g:=g) (n:=n) (cap:=cap) H W l i j hi' hj' hi hj (fun k u z v=>Ek hm hr.blk k u z v) (fun k _ u _=>hr.blk.frozen _);obtain⟨b1,k1⟩:=Iw hm hr.blk i l[j] hi';obtain⟨b2,k2⟩:=Iw hm b1 j l[i] (by rw[List.length_set];exact hj');refine⟨_,by rw[xN,Nat.zero_add,Nat.zero_add],?_,k1.trans k2⟩;unfold Ci;rw[AD hi',AD hj'];exact b2
theorem PP{α:Type}[Inhabited α]{F:Nat}{lb:Array Value}{lt:α->α->Bool}{t e:TypeId}{m:Nat}(S:SlT t e m)(c:Be α)(hl:∀x,(c.enc x).length=m)(h1:∀x,∀v∈c.enc x,v.oneCell'=true)(ho:Ord lt)(eg:∀args w,(callFunc F args).run prog w= .ok (.enter F args) w)(l:List α)(g n cap:Nat)(w:World)(hle:G9 c e w g l lt F lb)(xm:Blk w g e (l.flatMap c.enc++c.tail).toArray)(hn:l.length=n)(hsm:n<=12):Calls prog 116 #[.iface t (.slice (some ⟨g,0,none⟩) n cap),.func (.func F) #[] lb] w fun e' w'=>e'= .returned (.tuple #[])/\∃l',B3 c e w g l' w'/\l'.Perm l/\Asc lt l':=by
 obtain⟨i,hi,hd⟩:=S.info;obtain⟨ie,h2,h3,h4⟩:=S.elem;have xV:B3 c e w g l (sliceWorld prog LC t (some ⟨g,0,none⟩) n cap w):=((B3.self xm).alloc _).alloc _;have H9:=NS (enc:=c.enc) S hl h1;have fin:∀e' w',TE c e g lt l 0 n (sliceWorld prog LC t (some ⟨g,0,none⟩) n cap w) e' w'->e'= .returned (.tuple #[])/\∃l',B3 c e w g l' w'/\l'.Perm l/\Asc lt l':=fun e' w' h=>by
  obtain⟨h5,l',h6,h7,h8⟩:=h;refine⟨h5,l',xV.trans h6,h7.perm,?_⟩;have hl':l'.length=n:=h7.perm.length_eq.trans hn;have e1:seg l' 0 n=l':=by unfold seg;rw[List.drop_zero,AT (by omega)]
  rwa[e1]at h8
 refine Any.sort_Slice_of_pdq JO t e i ie hi hd S.packed h2 25 S.kind (some ⟨g,0,none⟩) n cap (by omega) (G0 n) (I9 h4 n) (.func F) #[] lb w (fun w'=>∃l',B3 c e w g l' w'/\l'.Perm l/\Asc lt l') ?_;by_cases h:2<=n
 ·have e1:G0 n=178:=by unfold G0;rw[if_neg (by omega),if_neg (by omega)]
  have e2:sliceBound prog e ie 25 (some ⟨g,0,none⟩) n cap=#[.slice (some ⟨g,0,none⟩) n cap,typeHandle prog e]:=by unfold sliceBound;rw[h4 n h];rfl
  rw[e1,e2];exact(Ng (w0:=w) (n:=n) eg ho hle (Ra n cap H9 e w) l _ xV (List.Perm.refl _) hn hsm _).mono fin
 ·exact(Ng (w0:=w) (n:=n) eg ho hle (fun _ _ i j _ _ hi hj hne=>absurd hne (by omega)) l _ xV (List.Perm.refl _) hn hsm _).mono fin
end
section
open Go.RowKit Go.Shelf
attribute [local go_sem ↓] Go.wp_at_zero Go.wp_at_succ Aj Ao Ap Aq
attribute [local go_sem] Ax BB BC BD AK AR AN
def Nh(p:Nm)(l:List Vt):List Vt:=(B8 ((l.filter fun s=>decide (s.parent=p)).map fun v=>(v,([]:List UInt8)))).map (·.1)
theorem L4(a b:Vt):Dn (a,([]:List UInt8)) (b,[])=BU a b:=by
 unfold Dn;by_cases h:a=b
 ·subst h;rw[if_pos rfl,Br];rfl
 ·rw[if_neg h]
theorem Yy:Ord BU:=⟨fun _ _ h=>GS h,fun x y z h h'=>by
 rw[<-L4]at h h' ⊢;exact JT.trans _ _ _ h h'⟩
theorem TF{p:Nm}{l s:List Vt}(hp:s.Perm (l.filter fun s=>decide (s.parent=p)))(hs:Asc BU s):Di id s s.length=Nh p l:=by
 have h1:=LR (f:=id) (f':=Prod.fst) (k:=fun v:Vt=>(v,([]:List UInt8))) (fun _=>rfl) s s.length;have h2:=Ok (l:=(l.filter fun s=>decide (s.parent=p)).map fun v=>(v,([]:List UInt8))) (s:=s.map fun v=>(v,([]:List UInt8))) (hp.map _) (by
  unfold Asc at hs ⊢;rw[List.pairwise_map];exact hs.imp fun h=>by rw[L4];exact h)
 rw[AX]at h2;unfold Nh;rw[<-h2,<-h1,List.map_map];exact(List.map_id' _).symm
def VM(l:List Vt)(p:Nm)(w:World)(q pb:Nat)(iv:Value)(wr:World):Prop:=
 ∃(i:Nat) (v:Value) (D:List Vt),iv= .int .i64 (i:Int)/\i<=l.length/\D.length<=i/\D=(l.take i).filter (fun s=>decide (s.parent=p))/\wr.ownsRow w.heap.size 46 22 v D.length (D.flatMap vtc)/\ZN w wr/\Blk wr q 24 p.cells/\Blk wr pb 56 #[v]
def TG(D:List Vt)(w3:World)(v iv:Value)(wr:World):Prop:=
 ∃(i:Nat) (O:List Vt),iv= .int .i64 (i:Int)/\i<=D.length/\O.length<=i/\O=Di id D i/\wr.ownsRow w3.heap.size 46 22 v O.length (O.flatMap vtc)/\ZN w3 wr
end
section
open Go.RowKit
attribute [local go_sem ↓] Go.wp_at_zero Go.wp_at_succ Aj Ao Ap Aq
attribute [local go_sem] Ax BB BC BD AK AR AN
def KV(M:Int)(O:List Vt)(v:Vt):Bool:=(xOf M).testBit v.signer.toNat&&EE M (CH (Aw (xOf M) 10)) v O
def Gx(M:Int)(D:List Vt):List Vt:=D.foldl (fun O v=>if KV M O v=true then O++[v]else O) []
theorem Rb{M:Int}{D:List Vt}{v:Vt}{b:Bool}(hm:¬(v.kind=4/\v.choice=2))(h:DI M (CH (Aw (xOf M) 10)) v (Gx M D) b):Gx M (D++[v])=if b=true then Gx M D++[v]else Gx M D:=by
 unfold DI at h;rw[if_neg hm]at h;unfold Gx;rw[List.foldl_append];show(if KV M _ v=true then _ else _)=_;unfold KV;rw[h];rfl
end
section
open Go.RowKit Go.Shelf
attribute [local go_sem ↓] Go.wp_at_zero Go.wp_at_succ Aj Ao Ap Aq JR
attribute [local go_sem] Ax BB BC BD MQ AK AR AN
def slF(s:Nat)(l:List Vt):List Vt:=l.filter fun x=>decide (x.slot=(s:Int))&&decide (x.kind<=4)
theorem VN{s:Nat}{l:List Vt}{x:Vt}(h:x∈slF s l):x∈l/\x.slot=(s:Int)/\x.kind<=4:=by
 unfold slF at h;obtain⟨h1,h2⟩:=List.mem_filter.1 h;rw[Bool.and_eq_true,decide_eq_true_eq,decide_eq_true_eq]at h2;exact⟨h1,h2⟩
theorem KW{s:Nat}{l:List Vt}{i:Nat}{x:Vt}(hx:l[i]? =some x):slF s (l.take (i+1))=slF s (l.take i)++if(decide (x.slot=(s:Int))&&decide (x.kind<=4))=true then[x]else[]:=by
 unfold slF;rw[Ai,hx,List.filter_append];by_cases h:(decide (x.slot=(s:Int))&&decide (x.kind<=4))=true <;> simp[h]
theorem VO{s:Nat}{l:List Vt}{i:Nat}{x:Vt}(hx:l[i]? =some x)(h1:x.slot=(s:Int))(h2:x.kind<=4):slF s (l.take (i+1))=slF s (l.take i)++[x]:=by
 rw[KW hx,if_pos (by simp[h1,h2])]
theorem TH{s:Nat}{l:List Vt}{i:Nat}{x:Vt}(hx:l[i]? =some x)(h2:¬x.kind<=4):slF s (l.take (i+1))=slF s (l.take i):=by
 rw[KW hx,if_neg (by simp;omega),List.append_nil]
theorem TI{s:Nat}{l:List Vt}{i:Nat}{x:Vt}(hx:l[i]? =some x)(h2:¬x.slot=(s:Int)):slF s (l.take (i+1))=slF s (l.take i):=by
 rw[KW hx,if_neg (by simp[h2]),List.append_nil]
theorem PQ(p:Nm)(s:Nat)(l D:List Vt)(h:D=slF s l):(D.filter fun s=>decide (s.parent=p)).length<=(l.filter fun s=>decide (s.parent=p)).length:=by
 rw[h];unfold slF;exact(List.Sublist.filter _ List.filter_sublist).length_le
def kyO(s:Nat)(x:Vt):Oc:=⟨(s:Int),x.round,x.choice,x.value⟩
def D2(s:Nat)(O:List Vt)(kl:List (Oc×Value)):Prop:=∀x∈O,x.kind=4->x.choice≠2->∃S:Nat,BQ (kyO s x) kl=some (.int .i64 (S:Int))/\S.testBit x.signer.toNat=true
def Wj(M:Int)(s:Nat)(O:List Vt)(x:Vt):Prop:=∃S:Nat,(∀y∈O,y.kind=4->y.choice≠2->kyO s y=kyO s x->S.testBit y.signer.toNat=true)/\Aw (xOf (S:Int)) 10<CH (Aw (xOf M) 10)
def Ib(M:Int)(L:List Oc)(p:Oc×Value):Prop:=p.1∈L∨∀S:Nat,p.2= .int .i64 (S:Int)->Aw (xOf (S:Int)) 10<CH (Aw (xOf M) 10)
theorem Ib.snoc{M:Int}{L:List Oc}{k:Oc}{v:Value}{p:Oc×Value}(h:Ib M L p∨p=(k,v)):Ib M (L++[k]) p:=by
 rcases h with(h|h)|rfl
 ·exact .inl (BW _ h)
 ·exact .inr h
 ·exact .inl (by simp)
theorem Ib.fail{M:Int}{L:List Oc}{k:Oc}{S:Nat}{p:Oc×Value}(hq:Aw (xOf (S:Int)) 10<CH (Aw (xOf M) 10))(h:Ib M L p∨p=(k,.int .i64 (S:Int))):Ib M L p:=by
 rcases h with h|rfl
 ·exact h
 ·refine .inr fun S' hS'=>?_
  have e:S=S':=by
   simp only[Value.int.injEq,true_and]at hS';omega
  rw[<-e];exact hq
theorem D2.skip{s:Nat}{O:List Vt}{i:Nat}{x:Vt}{kl:List (Oc×Value)}(h:D2 s (O.take i) kl)(hx:O[i]? =some x)(hn:¬x.kind=4∨x.choice=2):D2 s (O.take (i+1)) kl:=by
 intro y hy h4 h2;rw[Ai,hx]at hy;rcases AP.1 hy with hy|hy
 ·exact h y hy h4 h2
 ·have:y=x:=by simpa using hy
  subst this;rcases hn with hn|hn
  ·exact absurd h4 hn
  ·exact absurd hn h2
theorem D2.step{s:Nat}{O:List Vt}{i:Nat}{x:Vt}{kl kl5 kl6:List (Oc×Value)}{S sn:Nat}{k:Oc}(hkk:k=kyO s x)(h:D2 s (O.take i) kl)(hx:O[i]? =some x)(hsn:x.signer=(sn:Int))(h6:kl6=CP k (.int .i64 ((S|||2^sn:Nat):Int)) kl5)(h5:∀k',BQ k' kl5=if k'=k then some ((BQ k kl).getD (.int .i64 0))else BQ k' kl)(hS:(BQ k kl).getD (.int .i64 0)= .int .i64 (S:Int)):D2 s (O.take (i+1)) kl6:=by
 subst hkk;intro y hy h4 h2;rw[Ai,hx]at hy;rw[h6,Cn];by_cases hk:kyO s y=kyO s x
 ·rw[if_pos hk];refine⟨_,rfl,?_⟩;rw[Nat.testBit_or,Bool.or_eq_true,Nat.testBit_two_pow];rcases AP.1 hy with hy|hy
  ·obtain⟨S',h7,h8⟩:=h y hy h4 h2;rw[hk]at h7;rw[h7,Option.getD_some]at hS;simp only[Value.int.injEq,true_and]at hS;have:S'=S:=by omega
   rw[<-this];exact .inl h8
  ·have:y=x:=by simpa using hy
   subst this;right;rw[hsn];simp
 ·rw[if_neg hk,h5,if_neg hk];rcases AP.1 hy with hy|hy
  ·exact h y hy h4 h2
  ·have:y=x:=by simpa using hy
   subst this;exact absurd rfl hk
theorem D2.fin{M:Int}{s:Nat}{O:List Vt}{kl:List (Oc×Value)}{L:List Oc}(h:D2 s O kl)(hv:∀p∈kl,Ib M L p):∀x∈O,x.kind=4->x.choice≠2->kyO s x∈L∨Wj M s O x:=by
 intro x hx h4 h2;obtain⟨S,h5,h6⟩:=h x hx h4 h2;rcases hv _ (FO _ _ _ h5)with h7|h7
 ·exact .inl h7
 ·refine .inr ⟨S,fun y hy hy4 hy2 hk=>?_,h7 S rfl⟩;obtain⟨S',h8,h9⟩:=h y hy hy4 hy2;rw[hk,h5]at h8;simp only[Option.some.injEq,Value.int.injEq,true_and]at h8;have:S=S':=by omega
  rw[this];exact h9
theorem QX{op:Oper}{a:Act}{K:Act->World->Prop}{Q:Exit->Act->World->Prop}(x y:Operand)(ho:op.op= .mapEntry 178 x y)(m:Nat)(k:Oc)(hx:a.eval x= .map (some m))(hy:a.eval y=k.val){w:World}{kl:List (Oc×Value)}(h:Bp Oc.val w m kl)(hK:∀(w':World) (b:Nat) (v:Value) (kl':List (Oc×Value)),LZ Oc.val w' m kl' k b->(∀k',BQ k' kl'=if k'=k then some ((BQ k kl).getD (.int .i64 0))else BQ k' kl)->Upd k (.int .i64 0) kl kl'->kl'.length<=kl.length+1->w.grownBy w' (some m)->w'.heap.size=w.heap.size->K (a.put op.dst (.tuple #[v,goInt (b:Int)])) w'):op.wp prog a w K Q:=by
 obtain⟨w',b,v,kl',hr,h1,h2,h3,h4,h5,h6⟩:=h.entryX Ws underlying178 (.int .i64 0) Ge k;refine CC (w':=w') (.tuple #[v,goInt (b:Int)]) ?_ (hK w' b v kl' h1 h2 h3 h4 h5 h6);unfold execOp;rw[ho];simp only[hx,hy];simp[hr,Result.andThen]
theorem QY{op:Oper}{a:Act}{K:Act->World->Prop}{Q:Exit->Act->World->Prop}(x y z:Operand)(ho:op.op= .entryStore 178 x y z)(m b:Nat)(k:Oc)(v:Value)(hx:a.eval x= .map (some m))(hy:a.eval y=goInt (b:Int))(hz:a.eval z=v){w:World}{kl:List (Oc×Value)}(h:LZ Oc.val w m kl k b)(hK:∀(w':World) (kl':List (Oc×Value)),kl'=CP k v kl->Bp Oc.val w' m kl'->Upd k v kl kl'->kl'.length=kl.length->w.grownBy w' (some m)->w'.heap.size=w.heap.size->K (a.put op.dst undef) w'):op.wp prog a w K Q:=by
 obtain⟨w',hr,h1,h2,h3,h4,h5⟩:=h.store (P:=prog) 178 v;refine Md (w':=w') ?_ (hK w' _ rfl h1 h2 h3 h4 h5);unfold execOp;rw[ho];simp only[hx,hy,hz];simp[hr,Result.andThen]
def YI(l:List Vt)(s:Nat)(w:World)(v iv:Value)(wr:World):Prop:=
 ∃(i:Nat) (D:List Vt),iv= .int .i64 (i:Int)/\i<=l.length/\D.length<=i/\D=slF s (l.take i)/\wr.ownsRow w.heap.size 46 22 v D.length (D.flatMap vtc)/\ZN w wr
def YJ(M:Int)(s:Nat)(O:List Vt)(m:Nat)(w:World)(iv:Value)(wr:World):Prop:=
 ∃(i:Nat) (kl:List (Oc×Value)),iv= .int .i64 (i:Int)/\i<=O.length/\kl.length<=i/\C3 M (s:Int) O kl/\D2 s (O.take i) kl/\Bp Oc.val wr m kl/\w.grownBy wr (some m)
def YK(M:Int)(s:Nat)(O:List Vt)(m r pb:Nat)(kl:List (Oc×Value))(w:World)(wr:World):Prop:=
 ∃(cnt:Nat) (v:Value) (L:List Oc),DK Oc.val wr m r kl cnt (Ib M L)/\Blk wr pb 103 #[v]/\L.length+cnt<=kl.length/\(∀o∈L,o.slot=(s:Int)/\NC (xOf M) O o.round o.choice o.value)/\wr.ownsRow w.heap.size 142 11 v L.length (L.flatMap occ)/\ZN w wr
end
end Go.Proofs.YtadllffeoibelaaGreat
