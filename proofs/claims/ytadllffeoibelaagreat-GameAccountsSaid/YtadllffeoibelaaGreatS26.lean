/-
  Parts of the proof. No condition.
-/
import Derived.Test.YtadllffeoibelaaGreatS25
import Derived.IntWalk
open Go.Proofs.Tryz
namespace Go.Proofs.YtadllffeoibelaaGreat
set_option maxRecDepth 100000
set_option maxHeartbeats 32000000
set_option linter.all false
section
open Go.RowKit
attribute [local go_sem ↓] Go.wp_at_zero Go.wp_at_succ Aj Ao Ap Aq
attribute [local go_sem] Ax BB BC BD AK AR AN
def OH(w:World)(s:Sg)(e:Ending)(w':World):Prop:=∃A c,e= .returned (Sg.mk s.vote s.sig A c).val/\Bo w' w.heap.size (Sg.mk s.vote s.sig A c)/\ZN w w'
theorem Pj(s:Sg)(w:World)(hs:D3 w w.heap.size s):Calls prog 156 #[s.val] w (OH w s):=by
 obtain⟨w1,hw1⟩:=ZH ((w.alloc (.cells s.cells 62)).alloc (.cells Al 62));have hbw:ZN w w1:=by rw[hw1];exact((AC _ _).alloc (AB _) _).alloc (by simp) _
 have hsz1:w1.heap.size=w.heap.size+2:=by rw[hw1];simp
 have HBs:Hid (Blk w1 w.heap.size 62 s.cells):=by unfold Hid;rw[hw1];exact(Blk.new w _ _).alloc _
 have HBr:Hid (Blk w1 (w.heap.size+1) 62 Al):=by
  unfold Hid;rw[hw1];have:=Blk.new (w.alloc (.cells s.cells 62)) 62 Al;simpa using this
 have HSk:=AA hs;have hsl:s.sig.length<=140737488351232:=hs.2.2;clear hs;go_enter func156,ntmps156;go_upto_region 1 with fail
 rw[<-hw1];clear hw1;have xT:Hid (∀V,ZN w1 V->AJ V w.heap.size 0 22=some s.vote.cells/\V.cell? ⟨w.heap.size,22,none⟩=some (.slice s.A s.sig.length s.cap)):=fun V hV=>
  ⟨s.row_vote (HBs.out.below hV HBs.out.lt),((HBs.out.below hV HBs.out.lt).cell 22).trans s.cell_sig⟩
 have hbx:ZN w1 w1:=AC _ _;refine rgD (fun w'=>AJ w' w.heap.size 0 22=some s.vote.cells/\w'.cell? ⟨w.heap.size,22,none⟩=some (.slice s.A s.sig.length s.cap)) (xT.out _ hbx.drew) fun _=>?_
 iterate 4 (refine tkA ?_;go_frame)
 refine rd1 4 fun K hK=>?_
 rw[if_pos (by rfl)];refine Ft (some 7) (by rfl) (.const (.slice none 0 0)) (.tmp 6) _ (by rfl) w.heap.size 5 (.int .u8 0) 1 1 underlying60 Bf rfl (by decide) (.slice none 0 0) 0 [] (by rfl) ⟨rfl,.inl ⟨rfl,rfl⟩⟩ w1.heap.size s.A s.sig.length s.cap (s.sig.map B) (by rfl) (by simp) (((HSk.out.2.1.below hbw).more hbw.size).below hbx.drew) (fun u hu=>Ba hu) (by omega) (by unfold maxLen;omega) hbw.size ?_;intro v3 w3 xD hg3 yb;have xI:ZN w1 w3:=hbx.drew.grown hg3 (AB _) (by rintro k hk;simp[Value.ownBlock]at hk);rw[Nat.zero_add,List.nil_append]at xD;obtain⟨A3,c3,hv3⟩:=Av xD;subst hv3;have hHk:Bo w3 w.heap.size (Sg.mk s.vote s.sig A3 c3):=⟨HSk.out.1,xD,hsl⟩;have hAg:=AA hHk;clear xD hHk hg3 yb;refine hK.out _ _ (xT.out _ xI) (fun _=>?_);clear hK K;try go_frame
 refine tkV 8 5 ((Sg.mk s.vote s.sig A3 c3).val) (fun wq _=>Jh s.vote s.sig A3 c3 (.tmp 4) (.tmp 7) rfl rfl rfl wq) ?_;go_frame;refine rd1 6 fun K hK=>?_
 rw[if_pos (by rfl)];refine BN 62 (.tmp 2) (.tmp 8) (by rfl) (w.heap.size+1) (Sg.mk s.vote s.sig A3 c3).cells (by rfl) (by rfl) 62 Al (HBr.out.below xI HBr.out.lt) (by rw[Sg.size_cells];rfl) (by rw[Sg.size_cells];kernel_rfl) (fun u hu=>Sg.one _ u hu) (by rfl) ?_;intro w4 hR4 hg4 xc;have HR4:=AA hR4;have hEe:Bo w4 w.heap.size (Sg.mk s.vote s.sig A3 c3):=hAg.out.blk (HBr.out.below xI HBr.out.lt) hg4;have hHl:=AA hEe;have hFd:Hid (AJ w4 w.heap.size 0 22=some s.vote.cells/\w4.cell? ⟨w.heap.size,22,none⟩=some (.slice s.A s.sig.length s.cap)):=⟨s.row_vote ((HBs.out.below xI HBs.out.lt).kept hg4 (by simp)),(((HBs.out.below xI HBs.out.lt).kept hg4 (by simp)).cell 22).trans s.cell_sig⟩;clear hEe;refine hK.out _ _ (hFd.out) (fun _=>?_);clear hK K;try go_frame
 refine dnD ?_;have xE:ZN w w4:=(hbw.trans (xI.mono hbw.size)).grown hg4 (AG hbw.size xI.size) (by rintro j ⟨⟩;omega);go_wp2_with fail
 exact bodyPost_ret (results_cell_row (g:=w.heap.size+1) (cs:=(Sg.mk s.vote s.sig A3 c3).cells) rfl _ _ _ _ _ rfl HR4.out underlying62 rfl (by rw[Sg.size_cells];kernel_rfl)) rfl ⟨A3,c3,rfl,hHl.out,xE⟩
structure FW (L:List Sg)(k:Nat)(M:List (Ky×Value))(E:List Ev)(hb:Array Value):Prop where
 map:∀κ,BQ κ M=(Bw κ (L.take k)).map fun s=>s.val
 len:E.length=10
 evs:∀i e,i<10->BY i (L.take k)=some e->E[i]? =some e
 hlen:hb.size=10
 has:∀i,i<10->hb[i]? =some (.bool (BY i (L.take k)).isSome)
theorem FW.zero(L:List Sg):FW L 0 [] (List.replicate 10 Mv) #[.bool false,.bool false,.bool false,.bool false,.bool false,.bool false,.bool false,.bool false,.bool false,.bool false] where
 map κ:=rfl
 len:=by simp
 evs i e _ h:=by rw[List.take_zero]at h;cases h
 hlen:=rfl
 has i hi:=by
  rw[List.take_zero];rcases i with _|_|_|_|_|_|_|_|_|_|i
  all_goals first|rfl|omega
section
variable {L:List Sg}{k i:Nat}{M:List (Ky×Value)}{E:List Ev}{hb:Array Value}{s a:Sg}{e:Ev}
theorem D5(hs:L[k]? =some s):L.take (k+1)=L.take k++[s]:=by rw[Ai,hs];rfl
theorem OI(hs:L[k]? =some s)(ha:Bw (Cs s.vote) (L.take k)=some a)(κ:Ky):Bw κ (L.take (k+1))=Bw κ (L.take k):=by
 rw[D5 hs,FK];by_cases h:Cs s.vote=κ
 ·rw[<-h,ha];rfl
 ·rw[if_neg h];simp
theorem FW.new(h:FW L k M E hb)(hs:L[k]? =some s)(hn:Bw (Cs s.vote) (L.take k)=none):FW L (k+1) (CP (Cs s.vote) s.val M) E hb where
 map κ:=by
  rw[Cn,D5 hs,FK];by_cases e:κ=Cs s.vote
  ·rw[if_pos e,e,hn,if_pos rfl];rfl
  ·rw[if_neg e,if_neg (Ne.symm e),h.map];simp
 len:=h.len
 evs i e hi he:=by rw[D5 hs,On hn]at he;exact h.evs i e hi he
 hlen:=h.hlen
 has i hi:=by rw[D5 hs,On hn];exact h.has i hi
theorem FW.later(h:FW L k M E hb)(hs:L[k]? =some s)(ha:Bw (Cs s.vote) (L.take k)=some a)(hi:s.vote.signer=(i:Int))(hc:BY i (L.take k)=some e):FW L (k+1) M E hb:=by
 have hf:∀j,BY j (L.take (k+1))=BY j (L.take k):=fun j=>by
  rw[D5 hs];by_cases hj:j=i
  ·rw[hj,SW hc,hc]
  ·exact LS (by rw[hi];omega)
 exact⟨fun κ=>by rw[OI hs ha];exact h.map κ,h.len,fun j e hj he=>h.evs j e hj (by rwa[hf]at he),h.hlen,fun j hj=>by rw[hf];exact h.has j hj⟩
theorem Jl(hst:Cy L)(hs:L[k]? =some s):Cy (L.take k++[s]):=by
 rw[<-D5 hs];exact List.Pairwise.sublist (List.take_sublist _ _) hst
theorem FW.first(h:FW L k M E hb)(hs:L[k]? =some s)(hst:Cy L)(hv:∀x∈L,Ab x.vote)(ha:Bw (Cs s.vote) (L.take k)=some a)(hi:s.vote.signer=(i:Int))(hAl:i<10)(hc:BY i (L.take k)=none):FW L (k+1) M (E.set i ⟨a,s⟩) (hb.setIfInBounds i (.bool true)):=by
 have h1:BY i (L.take (k+1))=some ⟨a,s⟩:=by
  rw[D5 hs];exact QJ (hv s (AM hs)) hi (Jl hst hs) (fun x hx=>hv x (List.mem_of_mem_take hx)) ha hc
 have h2:∀j,j≠i->BY j (L.take (k+1))=BY j (L.take k):=fun j hj=>by
  rw[D5 hs];exact LS (by rw[hi];omega)
 refine⟨fun κ=>by rw[OI hs ha];exact h.map κ,by rw[List.length_set];exact h.len,fun j e hj he=>?_,by simpa using h.hlen,fun j hj=>?_⟩
 ·by_cases hji:j=i
  ·subst hji;rw[h1]at he;cases he
   rw[List.getElem?_set_self (by rw[h.len];exact hj)]
  ·rw[List.getElem?_set_ne (Ne.symm hji)];rw[h2 j hji]at he;exact h.evs j e hj he
 ·by_cases hji:j=i
  ·subst hji;rw[h1,Array.getElem?_setIfInBounds_self_of_lt (by rw[h.hlen];exact hj)];rfl
  ·rw[Array.getElem?_setIfInBounds_ne (Ne.symm hji),h2 j hji];exact h.has j hj
theorem Lo(hs:L[k]? =some s)(hst:Cy L)(hv:∀x∈L,Ab x.vote)(ha:Bw (Cs s.vote) (L.take k)=some a)(hi:s.vote.signer=(i:Int))(hc:BY i (L.take k)=some e):BU a.vote e.a.vote=false:=
 LT (hv s (AM hs)) hi (Jl hst hs) (fun x hx=>hv x (List.mem_of_mem_take hx)) ha hc
end
def Yi(L:List Sg)(w1:World)(m f h:Nat)(iv:Value)(wr:World):Prop:=
 ∃(k:Nat) (M:List (Ky×Value)) (E:List Ev) (hb:Array Value),iv= .int .i64 (k:Int)/\k<=L.length/\FW L k M E hb/\By GC wr m M/\Blk wr f 217 (E.flatMap evc).toArray/\Blk wr h 218 hb/\ZN w1 wr
end
section
open Go.RowKit
theorem V5{keys:List Nm}{l:List Sg}:∀s∈vfd keys l,s∈l:=fun _ hs=>(List.mem_filter.1 hs).1
theorem Pk(keys:List Nm)(l:List Sg):(vfd keys l).length<=l.length:=List.length_filter_le _ _
end
section
open Go.RowKit
attribute [local go_sem ↓] Go.wp_at_zero Go.wp_at_succ Aj Ao Ap Aq
attribute [local go_sem] Ax BB BC BD AK AR AN
theorem R4(K A:Option Addr)(nk ck n c:Nat)(keys:List Nm)(l:List Sg)(w:World)(Q:World->Ending->World->Prop)(hnk:keys.length=nk)(hn:l.length=n)(hK:Rd w w.heap.size K (keys.flatMap nmc))(hr:Rd w w.heap.size A (l.flatMap sgc))(hok:CO w w.heap.size l)(xS:n<=1000000)(hDN:∀v W,ZN w W->W.ownsRow w.heap.size 62 23 v (vfd keys l).length ((vfd keys l).flatMap sgc)->Calls prog 46 #[v] W (Q W))(hQ:∀W e w',Q W e w'->∃v,e= .returned v):Calls prog 154 #[.slice K nk ck,.slice A n c] w (fun e w'=>∃W,ZN w W/\Q W e w'):=by
 have HNK:=AA hnk;clear hnk;have HN:=AA hn;clear hn;have HK:=AA hK;clear hK;have HR:=AA hr;clear hr;have HOk:=AA hok;clear hok;have hCY:=AA hDN;clear hDN;have HQ:=AA hQ;clear hQ;go_enter func154,ntmps154;go_wp2
 go_loopw [5,10] (fun v iv wr=>Xx keys l w n v iv wr) (fun _ iv _=>n-(intOf iv).toNat)
 case atStart=>exact⟨0,rfl,by omega,⟨by simp[vfd],.inl ⟨by simp,rfl⟩⟩,AC _ _⟩
 case round=>
  obtain⟨i,rfl,hin,xA,hbw⟩:=hrel;by_cases hi:i<n
  ·have di:=ZK (show i<n by omega)
   obtain⟨T,hT⟩:=ZH (vfd keys (l.take i));have hTl:T.length<=1000000:=by have:=Xw keys l i;rw[hT];omega
   rw[<-hT]at xA;have HT:=AA hT;have xK:=AA xA;clear xA hT;obtain⟨s,hs⟩:∃s,l[i]? =some s:=⟨_,AD (by rw[HN.out];exact hi)⟩;obtain⟨b,o,rfl,hb,xH⟩:=HR.out.cells (by intro e;have:=AY sgc 23 l (Cc l);rw[e,HN.out]at this;simp at this;omega);clear xH;have x1:AJ wr b (o+i*23) 23=some s.cells:=(HR.out.below hbw).sgRow hs;have hsm:s∈l:=AM hs;have hCr:=fun W (hW:ZN w W)=>OG K ck keys s W ((HK.out.below hW).more hW.size) (((HOk.out s hsm).1.below hW).more hW.size) (HOk.out s hsm).2
   rw[HNK.out]at hCr;have hEN:=AA hCr;have HS:=AA hs;clear hCr hs hsm;go_upto_region 5 with(refine AI rfl 62 (.tmp 7) (.tmp 13) rfl wr.heap.size s.cells rfl rfl 62 Al (Blk.new wr _ _) (by rw[s.size_cells];rfl) (by rw[s.size_cells];kernel_rfl) (fun u hu=>s.one u hu) ?_;intro w4 hB4 hg4 xc)
   have xM:Hid (w4.ownsRow w.heap.size 62 23 u5 T.length (T.flatMap sgc)):=Bb (xK.out.alloc _) hg4 (fun k hk=>by
    injection hk with hk
    subst hk;right;intro e;have:=(xK.out.lt _ e).2;omega)
   have xE:ZN w w4:=(hbw.alloc hbw.size _).grown hg4 (AG hbw.size (by simp)) (ZJ hbw.size);have hw4:w4.heap.size=wr.heap.size+1:=by rw[xc];simp
   have HBx:=AA hB4;obtain⟨q,hq⟩:=ZH wr.heap.size;rw[<-hq]at HBx hw4 ⊢;have hq4:q<w4.heap.size:=by omega
   have x4:AJ w4 q 0 23=some s.cells:=HBx.out.row 23 s.size_cells;clear hB4 hg4 xc x1 hq xK hbw;go_frame;by_cases hv:Fc keys s.vote s.sig=true
   ·have HV:=AA hv;rw[hv]at hEN;clear hv;go_wp2_with ((first
     |(go_at_call 200;refine(hEN.out _ xE).mono ?_;rintro en w2 ⟨rfl,hb2⟩;have xB:=xE.trans (hb2.mono xE.size);have x2:AJ w2 q 0 23=some s.cells:=BH x4 hb2 hq4;have xG:=AA (Ay xM.out hb2 (AB _));clear hb2 x4)
     |(refine BS rfl 50 62 (.tmp 18) rfl s.cells rfl underlying50 (by rw[Sg.size_cells];kernel_rfl) (by rw[Sg.size_cells];omega) (by rw[Sg.size_cells];omega) ?_)
     |(at_builtin;refine Ar rfl (.tmp 17) (.tmp 19) _ rfl w.heap.size 62 (.agg Al) 23 88 underlying50 CT rfl (by decide) u5 T.length (T.flatMap sgc) rfl ?r0 (w2.heap.size+1) (some ⟨w2.heap.size,0,none⟩) 1 1 (sgc s) rfl ?r1 ?r2 ?r3 ?r4 ?r5 ?r6 ?_)))
    case r0=>exact xG.out.alloc _
    case r1=>rw[Array.length_toList];exact s.size_cells
    case r2=>exact Rd.mk (by omega) (fun j u hu=>by rw[Nat.zero_add,(Blk.new w2 _ _).cell];simpa using hu)
    case r3=>exact fun u hu=>s.one u hu
    case r4=>omega
    case r5=>unfold maxLen;omega
    case r6=>have:=xB.size;simp;omega
    intro v3 w3 xD hg3 yb;have xJ:ZN w w3:=BJ (xB.alloc xB.size _) (xG.out.alloc _) hg3;have yM:=AA xD;clear xD hg3 yb xG xB x2;go_wp2;go_roundw
    case rel=>
     refine⟨i+1,by go_num,by omega,?_,xJ⟩;have h:=yM.out;rw[HT.out]at h;rw[Oe HS.out,if_pos HV.out,AF,Af];simpa using h
    case measure=>simp[intOf];omega
   ·have HV:=AA hv;rw[Bool.eq_false_iff.mpr hv]at hEN;clear hv;go_wp2_with ((go_at_call 200;refine(hEN.out _ xE).mono ?_;rintro en w2 ⟨rfl,hb2⟩;have xB:=xE.trans (hb2.mono xE.size);have xG:=AA (Ay xM.out hb2 (AB _));clear hb2 x4))
    go_roundw
    case rel=>
     refine⟨i+1,by go_num,by omega,?_,xB⟩;have h:=xG.out;rw[HT.out]at h;rw[Oe HS.out,if_neg HV.out,List.append_nil];exact h
    case measure=>simp[intOf];omega
  ·obtain rfl:n=i:=by omega
   have HT:Hid (l.take n=l):=by unfold Hid;rw[<-HN.out,List.take_length]
   rw[HT.out]at xA;have yD:=AA xA;clear xA;go_wp2_with fail
   refine(hCY.out _ _ hbw yD.out).mono ?_;rintro en w2 hq;obtain⟨v,rfl⟩:=HQ.out _ _ _ hq;go_wp2;go_ret;exact⟨_,hbw,hq⟩
theorem T5(K A:Option Addr)(nk ck n c:Nat)(keys:List Nm)(l:List Sg)(w:World)(hnk:keys.length=nk)(hn:l.length=n)(hK:Rd w w.heap.size K (keys.flatMap nmc))(hr:Rd w w.heap.size A (l.flatMap sgc))(hok:CO w w.heap.size l)(xS:n<=1000000):Calls prog 154 #[.slice K nk ck,.slice A n c] w (KI w ((vfd keys l).map Sg.vs)):=by
 refine(R4 K A nk ck n c keys l w (fun W=>KI W ((vfd keys l).map Sg.vs)) hnk hn hK hr hok xS ?_ ?_).mono ?_
 ·intro v W hb xA;obtain⟨A',c',rfl,h1,h2,h3,h4⟩:=JS xA rfl (((hok.sub V5).below hb).more hb.size);have hl:=Pk keys l;exact NZ A' _ c' _ W rfl h1 h4 (by omega)
 ·rintro W e w' ⟨L,v,rfl,_⟩;exact⟨v,rfl⟩
 ·rintro e w' ⟨W,hb,L,v,rfl,hb',xA,hFe,he⟩;exact⟨L,v,rfl,hb.trans (hb'.mono hb.size),BE xA hb.size,hFe,he⟩
end
section
open Go.RowKit
attribute [local go_sem ↓] Go.wp_at_zero Go.wp_at_succ Aj Ao Ap Aq
attribute [local go_sem] Ax BB BC BD AK AR AN
attribute [local go_sem ↓] Xe Yg
attribute [local go_sem] Y5 Yh
def FX(w:World)(c:List ES)(e:Ending)(w':World):Prop:=
 ∃(E:List Ev) (v:Value),e= .returned v/\ZN w w'/\w'.ownsRow w.heap.size 125 46 v E.length (E.flatMap evc)/\(∀x∈E,(D3 w' w'.heap.size x.a/\GA x.a)/\(D3 w' w'.heap.size x.b/\GA x.b))/\E.map Ev.vs=c
def Eg(w:World)(b:Nat)(e:Ev):Prop:=Bo w b e.a/\Bo w b e.b
def Y6(L:List Sg)(w2:World)(v iv:Value)(wr:World):Prop:=
 ∃(k:Nat) (O:List Ev),iv= .int .i64 (k:Int)/\k<=10/\O.map Ev.vs=(LL L k).map Ev.vs/\wr.ownsRow w2.heap.size 125 46 v O.length (O.flatMap evc)/\(∀x∈O,Eg wr w2.heap.size x)/\ZN w2 wr
theorem Bo.base{w:World}{b b':Nat}{s:Sg}(h:Bo w b s)(hb:b'<=b):Bo w b' s:=⟨h.1,BE h.2.1 hb,h.2.2⟩
theorem Bo.farE{w w':World}{b b' m n:Nat}{v:Value}{xs:List Value}{s:Sg}(h:Bo w b s)(h':w.ownsRow b' 125 m v n xs)(hg:w.grownBy w' v.ownBlock):Bo w' b s:=⟨h.1,Wd h.2.1 h' (by decide) hg,h.2.2⟩
theorem Eg.below{w w':World}{b B':Nat}{e:Ev}(h:Eg w b e)(hb:Below B' w w')(hB:w.heap.size<=B'):Eg w' b e:=⟨h.1.below hb hB,h.2.below hb hB⟩
theorem Eg.alloc{w:World}{b:Nat}{e:Ev}(h:Eg w b e)(o:Obj):Eg (w.alloc o) b e:=⟨h.1.alloc o,h.2.alloc o⟩
theorem Eg.farE{w w':World}{b b' m n:Nat}{v:Value}{xs:List Value}{e:Ev}(h:Eg w b e)(h':w.ownsRow b' 125 m v n xs)(hg:w.grownBy w' v.ownBlock):Eg w' b e:=⟨h.1.farE h' hg,h.2.farE h' hg⟩
theorem T6(l:List Ev)(i:Nat)(e:Ev)(hl:l.length=10)(hi:l[i]? =some e)(w:World):(Instr.index 217 (.agg (l.flatMap evc).toArray) (.int .i64 (i:Int))).run prog w= .ok e.val w:=by
 have hlt:=(AE.1 hi).1;have h1:(isAgg 125).run prog w= .ok true w:=by kernel_rfl
 have h2:(sizeOf 125).run prog w= .ok 46 w:=by kernel_rfl
 have hp:(part 125 (l.flatMap evc).toArray (i*46)).run prog w= .ok e.val w:=by
  unfold part;rw[Sem.run_bind,h1,Result.andThen_ok,if_pos rfl,Sem.run_bind,h2,Result.andThen_ok,Sem.run_pure];have:(l.flatMap evc).toArray.extract (i*46) (i*46+46)=e.cells:=by
   apply Array.ext_getElem?;intro j;rw[Array.getElem?_extract];have hs:(l.flatMap evc).toArray.size=460:=by rw[List.size_toArray,H7,hl]
   rw[hs];by_cases hj:j<46
   ·rw[if_pos (by omega),List.getElem?_toArray,B4 evc 46 l (Gp l) i j e hi hj];simp
   ·rw[if_neg (by omega),Array.getElem?_eq_none (by rw[e.size_cells];omega)]
  rw[this]
 unfold Instr.index;rw[Sem.run_bind];have h3:(asIntOf (.int .i64 (i:Int))).run prog w= .ok (.i64,(i:Int)) w:=rfl;rw[h3,Result.andThen_ok];simp only[Sem.run_bind,run_underlying underlying217,Result.andThen_ok];rw[if_pos (by omega),Sem.run_bind,h2,Result.andThen_ok,Int.toNat_natCast,hp]
theorem V6:∀w,(zeroValue 62).run prog w= .ok (.agg Al) w:=fun w=>by
 obtain⟨i,hi,hz,_⟩:=info_parts CT;simp[zeroValue,typeInfo,hi,hz]
theorem R5(K A:Option Addr)(nk ck n0 c:Nat)(keys:List Nm)(l:List Sg)(w:World)(hnk:keys.length=nk)(hn:l.length=n0)(hK:Rd w w.heap.size K (keys.flatMap nmc))(hr:Rd w w.heap.size A (l.flatMap sgc))(hok:CO w w.heap.size l)(xS:n0<=1000000):Calls prog 106 #[.slice K nk ck,.slice A n0 c] w (FX w (CY (cvS keys (l.map Sg.vs)) 10)):=by
 have h1:=T5 K A nk ck n0 c keys l w hnk hn hK hr hok xS;obtain⟨cl,hcl⟩:=ZH (cvS keys (l.map Sg.vs));have hcs:CU cl:=by rw[hcl];exact IM _ _
 have hcv:∀x∈cl,Ab x.1:=by rw[hcl];exact MT
 have hl:cl.length<=1000000:=by
  have a:=D9 (vfS keys (l.map Sg.vs));have b:=List.length_filter_le (fun x:VS=>Fc keys x.1 x.2) (l.map Sg.vs);rw[AX]at b;rw[hcl];unfold cvS;unfold vfS at a ⊢;omega
 have H1:Hid (Calls prog 154 #[.slice K nk ck,.slice A n0 c] w fun e w'=>∃(L:List Sg) (v:Value),e= .returned v/\ZN w w'/\Yu w' L v/\L.map Sg.vs=cl):=by
  refine h1.mono ?_;rintro e w' ⟨L,v,rfl,hb,xA,hFe,he⟩;exact⟨L,v,rfl,hb,JS xA rfl hFe,by rw[he,hcl,X0];rfl⟩
 rw[<-hcl];have HCs:=AA hcs;have HCv:=AA hcv;have hmk:∀W:World,(Instr.makeMap 216 none).run prog W= .ok (.map (some W.heap.size)) (W.alloc (.map #[] 0)):=fun W=>rfl
 clear h1 hcl hK hr hok hn hnk hcs hcv;go_enter func106,ntmps106;go_upto_region 5 with(go_at_call 154;refine H1.out.mono ?_;rintro en w1 ⟨L,v,rfl,hb1,⟨A2,c2,rfl,hr2,hc2,hm2,hk2⟩,he2⟩)
 have hL:L.length<=1000000:=by
  have:=congrArg List.length he2;rw[AX]at this;omega
 obtain⟨n,hnL⟩:=ZH L.length;rw[<-hnL];rw[<-hnL]at hL hc2;have HN:Hid (L.length=n):=hnL.symm;have HR:=AA hr2;have HOk:=AA hk2;have HE:=AA he2;have HSt:Hid (Cy L):=by unfold Hid;rw[Om,he2];exact HCs.out
 have HVd:Hid (∀x∈L,Ab x.vote):=fun x hx=>HCv.out x.vs (by rw[<-he2];exact List.mem_map_of_mem hx)
 clear hr2 hk2 he2 hnL H1 hmk;obtain⟨w2,hw2⟩:=ZH (((w1.alloc (.map #[] 0)).alloc (.cells ET 217)).alloc (.cells #[.bool false,.bool false,.bool false,.bool false,.bool false,.bool false,.bool false,.bool false,.bool false,.bool false] 218));rw[<-hw2];have hM0:By GC w2 w1.heap.size []:=by rw[hw2];exact((By.new GC w1).alloc _).alloc _
 have hE0:Blk w2 (w1.heap.size+1) 217 ((List.replicate 10 Mv).flatMap evc).toArray:=by
  rw[hw2];have:=(Blk.new (w1.alloc (.map #[] 0)) 217 ET).alloc (.cells #[.bool false,.bool false,.bool false,.bool false,.bool false,.bool false,.bool false,.bool false,.bool false,.bool false] 218);rw[show((List.replicate 10 Mv).flatMap evc).toArray=ET from rfl];simpa using this
 have hB0:Blk w2 (w1.heap.size+2) 218 #[.bool false,.bool false,.bool false,.bool false,.bool false,.bool false,.bool false,.bool false,.bool false,.bool false]:=by
  rw[hw2];have:=Blk.new ((w1.alloc (.map #[] 0)).alloc (.cells ET 217)) 218 #[.bool false,.bool false,.bool false,.bool false,.bool false,.bool false,.bool false,.bool false,.bool false,.bool false];simpa using this
 have xd:ZN w1 w2:=by rw[hw2];exact(((AC _ _).alloc (AB _) _).alloc (by simp) _).alloc (by simp;omega) _
 have hw2s:w2.heap.size=w1.heap.size+3:=by rw[hw2];simp
 clear hw2;obtain⟨m,hm⟩:=ZH w1.heap.size;obtain⟨f,hf⟩:=ZH (w1.heap.size+1);obtain⟨h,hh⟩:=ZH (w1.heap.size+2);rw[<-hh,<-hf,<-hm];rw[<-hm]at hM0;rw[<-hf]at hE0;rw[<-hh]at hB0;have hEf:Hid (Yi L w1 m f h (.int .i64 ((0:Nat):Int)) w2):=⟨0,[],_,_,rfl,Nat.zero_le _,FW.zero L,hM0,hE0,hB0,xd⟩;have hmf:m≠f:=by omega
 have hmh:m≠h:=by omega
 have hfh:f≠h:=by omega
 have hm1:w1.heap.size<=m:=by omega
 have hf1:w1.heap.size<=f:=by omega
 have hh1:w1.heap.size<=h:=by omega
 clear hM0 hE0 hB0 xd hw2s hm hf hh;go_wp2
 go_loopw [24] (fun iv wr=>Yi L w1 m f h iv wr) (fun iv _=>n-(intOf iv).toNat)
 case atStart=>exact hEf.out
 case round=>
  clear hEf;obtain⟨k,M,E,hb,rfl,hkn,hD,hM,hE,hB,hbw⟩:=hrel;rw[HN.out]at hkn;have HD:=AA hD;have HM:=AA hM;have HEb:=AA hE;have HBb:=AA hB;have hmw:=hM.lt;have hfw:=hE.lt;have hhw:=hB.lt;clear hD hM hE hB;by_cases hi:k<n
  ·have di:=ZK (show k<n by omega)
   obtain⟨s,hs⟩:∃s,L[k]? =some s:=⟨_,AD (by rw[HN.out];exact hi)⟩;obtain⟨b,o,rfl,hbb,xH⟩:=HR.out.cells (by intro e;have:=AY sgc 23 L (Cc L);rw[e,HN.out]at this;simp at this;omega);clear xH;have x1:AJ wr b (o+k*23) 23=some s.cells:=(HR.out.below hbw).sgRow hs;have hvs:=HVd.out s (AM hs);obtain⟨sn,hsn⟩:=Int.eq_ofNat_of_zero_le hvs.2.1.1;have hBT:sn<10:=by have:=hvs.2.1.2;omega
   have HSn:=AA hsn;have HS:=AA hs;clear hs hvs hsn;go_upto_region 8 with(refine AI rfl 62 (.tmp 10) (.tmp 27) rfl wr.heap.size s.cells rfl rfl 62 Al (Blk.new wr _ _) (by rw[s.size_cells];rfl) (by rw[s.size_cells];kernel_rfl) (fun u hu=>s.one u hu) ?_;intro w4 hB4 hg4 xc)
   obtain⟨q,hq⟩:=ZH wr.heap.size;rw[<-hq]at hB4 hg4 ⊢;have HM4:Hid (By GC w4 m M):=(HM.out.alloc _).kept hg4 (by simp;omega);have HE4:Hid (Blk w4 f 217 (E.flatMap evc).toArray):=(HEb.out.alloc _).kept hg4 (by simp;omega);have HB4:Hid (Blk w4 h 218 hb):=(HBb.out.alloc _).kept hg4 (by simp;omega);have xE:ZN w1 w4:=(hbw.alloc hbw.size _).grown hg4 (AG hbw.size (by simp)) (fun j hj=>by injection hj with hj;subst hj;rw[hq];exact hbw.size);have hw4:w4.heap.size=q+1:=by rw[xc,hq];simp
   have HQ4:=AA hB4;have hq1:w1.heap.size<=q:=by rw[hq];exact hbw.size
   have hqm:q≠m:=by omega
   have hqf:q≠f:=by omega
   have hqh:q≠h:=by omega
   have c4:w4.cell? ⟨q,4,none⟩=some (.int .i64 (sn:Int)):=by rw[<-HSn.out];exact(HQ4.out.cell 4).trans (s.cell_vote 4 _ rfl)
   have x22:AJ w4 q 0 22=some s.vote.cells:=s.row_vote HQ4.out;clear hB4 hg4 xc x1 hq HM HEb HBb hmw hfw hhw hbw;go_frame;obtain⟨κ,hκ⟩:=ZH (Cs s.vote);have HOf:Hid (∀W,Calls prog 155 #[s.vote.val] W (T3 W κ)):=fun W=>by rw[hκ];exact T4 s.vote W
   have HKy:=AA hκ;clear hκ;have zK:Hid (∀W,ZN w4 W->(Instr.lookup 216 (.map (some m)) (GC κ) true).run prog W= .ok (.tuple #[(BQ κ M).getD (.agg Al),.bool (BQ κ M).isSome]) W):=fun W hW=>
    (HM4.out.below hW HM4.out.lt).look Yd underlying216 _ (V6 W) κ true
   rcases hF:Bw κ (L.take k)with _|a
   ·have hal:BQ κ M=none:=by rw[HD.out.map κ,hF];rfl
    rw[hal]at zK;have HF:=AA hF;clear hF hal;go_upto_region 11 with(first
     |(go_at_call 155;refine(HOf.out _).mono ?_;rintro en w5 ⟨rfl,hb5⟩;have xX:=hb5;have hlk:=zK.out _ hb5;simp only[Option.getD_none,Option.isSome_none]at hlk)
     |(refine AI rfl 62 (.tmp 12) (.tmp 37) rfl w5.heap.size Al rfl rfl 62 Al (Blk.new w5 _ _) rfl Bm (fun u hu=>IH hu) ?_;intro w6 hB6 hg6 hDY))
    obtain⟨q2,hq2⟩:=ZH w5.heap.size;rw[<-hq2]at hB6 hg6 ⊢;have hq2m:m<q2:=by rw[hq2];exact(HM4.out.below hb5 HM4.out.lt).lt
    have hq2f:f<q2:=by rw[hq2];exact(HE4.out.below hb5 HE4.out.lt).lt
    have hq2h:h<q2:=by rw[hq2];exact(HB4.out.below hb5 HB4.out.lt).lt
    have hq2q:q<q2:=by rw[hq2];exact(HQ4.out.below hb5 HQ4.out.lt).lt
    have hFf:w1.heap.size<=q2:=by omega
    have HM6:Hid (By GC w6 m M):=(((HM4.out.below hb5 HM4.out.lt).alloc _).kept hg6 (by simp;omega));have HE6:Hid (Blk w6 f 217 (E.flatMap evc).toArray):=(((HE4.out.below hb5 HE4.out.lt).alloc _).kept hg6 (by simp;omega));have HB6:Hid (Blk w6 h 218 hb):=(((HB4.out.below hb5 HB4.out.lt).alloc _).kept hg6 (by simp;omega));have HQ6:Hid (Blk w6 q 62 s.cells):=(((HQ4.out.below hb5 HQ4.out.lt).alloc _).kept hg6 (by simp;omega));have xP:ZN w1 w5:=xE.trans (hb5.mono xE.size);have xY:ZN w1 w6:=(xP.alloc xP.size _).grown hg6 (AG xP.size (by simp)) (ZJ hFf);have hw6:q2<w6.heap.size:=by rw[hDY,hq2];simp
    have HA6:=AA hB6;clear hB6 hg6 hDY hlk zK hq2 xP xX hb5 xE c4 x22 HM4 HE4 HB4 HQ4 hw4;try go_frame
    have xT:Hid (∀V,ZN w6 V->AJ V q 0 22=some s.vote.cells/\AJ V q 0 23=some s.cells):=fun V hV=>⟨s.row_vote (HQ6.out.below hV HQ6.out.lt),(HQ6.out.below hV HQ6.out.lt).row 23 s.size_cells⟩
    have hbx:ZN w6 w6:=AC _ _;refine rgD (fun w'=>AJ w' q 0 22=some s.vote.cells/\AJ w' q 0 23=some s.cells) (xT.out _ hbx.drew) fun _=>?_
    iterate 3 (refine tkA ?_;go_frame)
    refine tkD 45 4 ?_;go_frame;refine rd1 3 fun K hK=>?_
    go_simp;refine(HOf.out _).mono ?_;rintro en w7 ⟨rfl,hb7⟩;have xb:=hbx.drew.trans (hb7.mono (AB _));go_wp2_with fail
    refine hK.out _ _ (xT.out _ xb) (fun _=>?_);clear hK K;try go_frame
    refine rd1 5 fun K hK=>?_
    rw[if_pos (by rfl)];refine V4 (enc:=GC) 216 62 (.tmp 41) (.tmp 44) (.tmp 45) (by rfl) (by rfl) m κ s.val M (by rfl) (by rfl) (by rfl) (HM6.out.below xb HM6.out.lt) Yd underlying216 ?_;intro w8 hM8 hg8 hCq;have HM8:=AA hM8;have HE8:Hid (Blk w8 f 217 (E.flatMap evc).toArray):=(HE6.out.below xb HE6.out.lt).kept hg8 (by simp;omega);have HB8:Hid (Blk w8 h 218 hb):=(HB6.out.below xb HB6.out.lt).kept hg8 (by simp;omega);have yR:=xY.trans (xb.mono xY.size);have hBM:ZN w1 w8:=yR.grown hg8 yR.size (ZJ hm1);have hFg:Hid (AJ w8 q 0 22=some s.vote.cells/\AJ w8 q 0 23=some s.cells):=⟨s.row_vote ((HQ6.out.below xb HQ6.out.lt).kept hg8 (by simp;omega)),((HQ6.out.below xb HQ6.out.lt).kept hg8 (by simp;omega)).row 23 s.size_cells⟩;refine hK.out _ _ (hFg.out) (fun _=>?_);clear hK K;try go_frame
    refine dnD ?_;go_wp2_with fail
    go_roundw
    case rel=>
     refine⟨k+1,_,E,hb,by go_num,by rw[HN.out];omega,?_,HM8.out,HE8.out,HB8.out,hBM⟩;rw[HKy.out];exact HD.out.new HS.out (by rw[<-HKy.out];exact HF.out)
    case measure=>simp[intOf];omega
   ·have hal:BQ κ M=some a.val:=by rw[HD.out.map κ,hF];rfl
    rw[hal]at zK;have HF:=AA hF;have ham:a∈L:=List.mem_of_mem_take (F0 hF).1;have HAk:=AA (HOk.out a ham);clear hF hal ham;go_upto_region 12 with(first
     |(go_at_call 155;refine(HOf.out _).mono ?_;rintro en w5 ⟨rfl,hb5⟩;have xX:=hb5;have hlk:=zK.out _ hb5;simp only[Option.getD_some,Option.isSome_some]at hlk)
     |(refine AI rfl 62 (.tmp 12) (.tmp 37) rfl w5.heap.size a.cells rfl rfl 62 Al (Blk.new w5 _ _) (by rw[a.size_cells];rfl) (by rw[a.size_cells];kernel_rfl) (fun u hu=>a.one u hu) ?_;intro w6 hB6 hg6 hDY))
    obtain⟨q2,hq2⟩:=ZH w5.heap.size;rw[<-hq2]at hB6 hg6 ⊢;have hq2m:m<q2:=by rw[hq2];exact(HM4.out.below hb5 HM4.out.lt).lt
    have hq2f:f<q2:=by rw[hq2];exact(HE4.out.below hb5 HE4.out.lt).lt
    have hq2h:h<q2:=by rw[hq2];exact(HB4.out.below hb5 HB4.out.lt).lt
    have hq2q:q<q2:=by rw[hq2];exact(HQ4.out.below hb5 HQ4.out.lt).lt
    have hFf:w1.heap.size<=q2:=by omega
    have HM6:Hid (By GC w6 m M):=(((HM4.out.below hb5 HM4.out.lt).alloc _).kept hg6 (by simp;omega));have HE6:Hid (Blk w6 f 217 (E.flatMap evc).toArray):=(((HE4.out.below hb5 HE4.out.lt).alloc _).kept hg6 (by simp;omega));have HB6:Hid (Blk w6 h 218 hb):=(((HB4.out.below hb5 HB4.out.lt).alloc _).kept hg6 (by simp;omega));have HQ6:Hid (Blk w6 q 62 s.cells):=(((HQ4.out.below hb5 HQ4.out.lt).alloc _).kept hg6 (by simp;omega));have xP:ZN w1 w5:=xE.trans (hb5.mono xE.size);have xY:ZN w1 w6:=(xP.alloc xP.size _).grown hg6 (AG xP.size (by simp)) (ZJ hFf);have hw6:q2<w6.heap.size:=by rw[hDY,hq2];simp
    have HA6:=AA hB6;clear hB6 hg6 hDY hlk zK hq2 xP xX hb5 xE c4 x22 HM4 HE4 HB4 HQ4 hw4;try go_frame
    have HFa:Hid (Bw (Cs s.vote) (L.take k)=some a):=by unfold Hid;rw[<-HKy.out];exact HF.out
    have xa:AJ w6 q2 0 23=some a.cells:=HA6.out.row 23 a.size_cells;have xs:AJ w6 q 0 23=some s.cells:=HQ6.out.row 23 s.size_cells;go_upto_region 13 with(first
     |(refine Great.wpList_readTo rfl (some 48) rfl (Ev.mk a s).val (Js a s (.tmp 46) (.tmp 47) rfl rfl rfl _) ?_)
     |(refine AI rfl 125 (.tmp 14) (.tmp 48) rfl w6.heap.size (Ev.mk a s).cells rfl rfl 125 B7 (Blk.new w6 _ _) (by rw[Ev.size_cells];rfl) (by rw[Ev.size_cells];exact De) (fun u hu=>JQ _ hu) ?_;intro w8 hB8 hg8 hCq))
    have HE8:Hid (Blk w8 f 217 (E.flatMap evc).toArray):=(HE6.out.alloc _).kept hg8 (by simp;omega);have HB8:Hid (Blk w8 h 218 hb):=(HB6.out.alloc _).kept hg8 (by simp;omega);have HM8:Hid (By GC w8 m M):=(HM6.out.alloc _).kept hg8 (by simp;omega);have HA8:Hid (Blk w8 q2 62 a.cells):=(HA6.out.alloc _).kept hg8 (by simp;omega);have hBM:ZN w1 w8:=(xY.alloc xY.size _).grown hg8 (AG xY.size (by simp)) (ZJ xY.size);have hw8:w6.heap.size<w8.heap.size:=by rw[hCq];simp
    obtain⟨q3,hq3⟩:=ZH w6.heap.size;rw[<-hq3]at hB8 ⊢;have HC8:=AA hB8;have hq3f:f<q3:=by omega
    have hq3h:h<q3:=by omega
    have hq3m:m<q3:=by omega
    clear hq3;have hDZ:=HD.out.len;have hbsz:=HD.out.hlen;have i0:(0:Int)<=(sn:Int):=by omega
    have i1:(sn:Int)<10:=by omega
    clear hB8 hg8 hCq xa xs HM6 HE6 HB6 HQ6 HA6 xY;go_frame;rcases hC:BY sn (L.take k)with _|e
    ·have hh0:=HD.out.has sn hBT;rw[hC]at hh0;have HC:=AA hC;clear hC;have xT:Hid (∀V,ZN w8 V->V.cell? ⟨h,sn,none⟩=some (.bool false)):=fun V hV=>((HB8.out.below hV HB8.out.lt).cell sn).trans hh0
     have hbx:ZN w8 w8:=AC _ _;refine rgD (fun w'=>w'.cell? ⟨h,sn,none⟩=some (.bool false)) (xT.out _ hbx.drew) fun _=>?_
     iterate 5 (refine tkA ?_;go_frame)
     refine skD 54 5 ?_;go_frame;refine skD 55 6 ?_;go_frame;refine skD 56 7 ?_;go_frame;refine skD 57 8 ?_;go_frame;refine skD 58 9 ?_;go_frame;refine skD 59 10 ?_;go_frame;refine skD 60 11 ?_;go_frame;refine skD 61 12 ?_;go_frame;refine tkD 62 13 ?_;go_frame;refine dnD ?_;have HE9:Hid (Blk w8.drew f 217 (E.flatMap evc).toArray):=HE8.out;have xe:AJ w8.drew q3 0 46=some (Ev.mk a s).cells:=HC8.out.drew.row 46 (Ev.size_cells _);have HB9:Hid (Blk w8.drew h 218 hb):=HB8.out;have HM9:Hid (By GC w8.drew m M):=HM8.out;have hHm:ZN w1 w8.drew:=hBM.drew;clear HE8 HB8 HM8 hBM xT hbx;generalize w8.drew=w9 at*;go_wp2_with (refine J3 rfl (.tmp 66) (.tmp 65) rfl f sn (Ev.mk a s) rfl rfl 217 E HE9.out (by rw[hDZ];exact hBT) ?_;intro w10 hHn yJ;have hCH:=AA hHn;have hFh:Hid (Blk w10 h 218 hb):=HB9.out.kept yJ (by simp;omega);have hDH:Hid (By GC w10 m M):=HM9.out.kept yJ (by simp;omega);have hBN:ZN w1 w10:=hHm.grown yJ hHm.size (ZJ hf1);have ch:w10.cell? ⟨h,sn,none⟩=some (.bool false):=(hFh.out.cell sn).trans hh0;have fh:w10.frozen? ⟨h,sn,none⟩=false:=hFh.out.frozen sn)
     have g11:w10.grownBy (w10.setCell ⟨h,sn,none⟩ (.bool true)) (some h):=Bl (Am w10 h) rfl _;go_roundw
     case rel=>
      exact⟨k+1,M,E.set sn ⟨a,s⟩,hb.setIfInBounds sn (.bool true),by go_num,by rw[HN.out];omega,HD.out.first HS.out HSt.out HVd.out HFa.out HSn.out hBT HC.out,hDH.out.kept g11 (by simp;omega),hCH.out.kept g11 (by simp;omega),hFh.out.put sn (.bool true),hBN.setCell hh1 _⟩
     case measure=>simp[intOf];omega
    ·have hh0:=HD.out.has sn hBT;rw[hC]at hh0;have he:=HD.out.evs sn e hBT hC;have HLs:Hid (∀W,Calls prog 109 #[a.vote.val,e.a.vote.val] W (Ac W false)):=fun W=>by
      rw[<-Lo HS.out HSt.out HVd.out HFa.out HSn.out hC];exact Gl a.vote e.a.vote W
     have HC:=AA hC;clear hC;have xT:Hid (∀V,ZN w8 V->V.cell? ⟨h,sn,none⟩=some (.bool true)/\AJ V q2 0 22=some a.vote.cells/\AJ V f (sn*46) 22=some e.a.vote.cells):=fun V hV=>
      ⟨((HB8.out.below hV HB8.out.lt).cell sn).trans hh0,a.row_vote (HA8.out.below hV HA8.out.lt),(HE8.out.below hV HE8.out.lt).evA he⟩
     have hbx:ZN w8 w8:=AC _ _;refine rgD (fun w'=>w'.cell? ⟨h,sn,none⟩=some (.bool true)/\AJ w' q2 0 22=some a.vote.cells/\AJ w' f (sn*46) 22=some e.a.vote.cells) (xT.out _ hbx.drew) fun _=>?_
     iterate 12 (refine tkA ?_;go_frame)
     refine rd1 12 fun K hK=>?_
     go_simp;refine(HLs.out _).mono ?_;rintro en w9 ⟨rfl,hb9⟩;have zJ:=hbx.drew.trans (hb9.mono (AB _));go_wp2_with fail
     refine hK.out _ _ (xT.out _ zJ) (fun _=>?_);clear hK K;try go_frame
     refine tkD 62 13 ?_;go_frame;refine dnD ?_;go_wp2_with fail
     go_roundw
     case rel=>
      exact⟨k+1,M,E,hb,by go_num,by rw[HN.out];omega,HD.out.later HS.out HFa.out HSn.out HC.out,HM8.out.below zJ HM8.out.lt,HE8.out.below zJ HE8.out.lt,HB8.out.below zJ HB8.out.lt,hBM.trans (zJ.mono hBM.size)⟩
     case measure=>simp[intOf];omega
  ·have di:=ZL (show n<=k by omega)
   obtain rfl:n=k:=by omega
   have HTn:Hid (L.take n=L):=by unfold Hid;rw[<-HN.out,List.take_length]
   have hev:Hid (∀i e,i<10->BY i L=some e->E[i]? =some e):=fun i e h1 h2=>HD.out.evs i e h1 (by rw[HTn.out];exact h2)
   have hhas:Hid (∀i,i<10->hb[i]? =some (.bool (BY i L).isSome)):=fun i h1=>by
    have:=HD.out.has i h1;rwa[HTn.out]at this
   have hDZ:=HD.out.len;have hCH:=AA hDZ;have xF:AJ wr f 0 460=some (E.flatMap evc).toArray:=HEb.out.row 460 (by rw[List.size_toArray,H7,hDZ]);have HIx:Hid (∀(i:Nat) (e:Ev),E[i]? =some e->∀W,(Instr.index 217 (.agg (E.flatMap evc).toArray) (.int .i64 (i:Int))).run prog W= .ok e.val W):=fun i e h W=>T6 E i e hCH.out h W
   obtain⟨cs,hcs⟩:=ZH ((E.flatMap evc).toArray);rw[<-hcs]at xF HIx;have HW1:=AA hbw;have hHo:Hid (∀x∈L,D3 wr wr.heap.size x):=fun x hx=>((HOk.out x hx).1.below hbw).more hbw.size
   obtain⟨W2,hW2⟩:=ZH wr;subst hW2;have xB:=hb1.trans (hbw.mono hb1.size);clear hcs HD HM HEb hmw hbw hkn hDZ;go_wp2
   go_loopw [15,70] (fun v iv wr=>Y6 L W2 v iv wr) (fun _ iv _=>10-(intOf iv).toNat)
   case atStart=>exact⟨0,[],rfl,Nat.zero_le _,rfl,⟨rfl,.inl ⟨rfl,rfl⟩⟩,(fun x hx=>by cases hx),AC _ _⟩
   case round=>
    clear xF;obtain⟨i,O,rfl,hAl,hO,xA,yY,hbr⟩:=hrel;have HO:=AA hO;have xK:=AA xA;have yg:=AA yY;have hOl:O.length<=10:=by
     have h1:=congrArg List.length hO;rw[AX,AX]at h1;have h2:=SU L i;omega
    clear hO xA yY;by_cases hi:i<10
    ·have di:decide ((i:Int)<10)=true:=by simp;omega
     have i0:(0:Int)<=(i:Int):=by omega
     have i1:(i:Int)<10:=by omega
     obtain⟨x,hx⟩:∃x,E[i]? =some x:=⟨_,AD (by rw[hCH.out];exact hi)⟩;have hix:(Instr.index 217 (.agg cs) (.int .i64 (i:Int))).run prog wr= .ok x.val wr:=HIx.out i x hx wr;have HX:=AA hx;clear hx;go_upto_region 20 with(refine AI rfl 125 (.tmp 17) (.tmp 73) rfl wr.heap.size x.cells rfl rfl 125 B7 (Blk.new wr _ _) (by rw[Ev.size_cells];rfl) (by rw[Ev.size_cells];exact De) (fun u hu=>JQ _ hu) ?_;intro w4 hB4 hg4 xc)
     have hb4:ZN wr w4:=((AC _ wr).alloc (AB _) _).grown hg4 (by simp) (by rintro j ⟨⟩;omega);have yP:=hbr.trans (hb4.mono hbr.size);have xM:=AA (Ay xK.out hb4 (AB _));have hEg:Hid (∀y∈O,Eg w4 W2.heap.size y):=fun y hy=>(yg.out y hy).below hb4 (AB _)
     have HQ4:=AA hB4;obtain⟨q,hq⟩:=ZH wr.heap.size;have HLt:Hid (∀k,u15.ownBlock=some k->k<q):=fun k hk=>by rw[hq];exact(xK.out.lt k hk).2
     rw[<-hq]at HQ4 ⊢;have ch:w4.cell? ⟨h,i,none⟩=some (.bool (BY i L).isSome):=by
      have h1:=(HBb.out.below yP hhw).cell i;rw[h1];exact hhas.out i hi
     clear hB4 hg4 xc hix hb4 xK yg hbr hq;go_frame;rcases hF:BY i L with _|e
     ·have HF:=AA hF;rw[hF]at ch;simp only[Option.isSome_none]at ch;clear hF;go_wp2;go_roundw
      case rel=>
       refine⟨i+1,O,by go_num,by omega,?_,xM.out,hEg.out,yP⟩;rw[LM,HF.out,HO.out];simp
      case measure=>simp[intOf];omega
     ·have hxe:x=e:=by
       have h1:=hev.out i e hi hF;rw[HX.out]at h1;exact Option.some.inj h1
      subst hxe;have hxm:=LN hF;have HF:=AA hF;rw[hF]at ch;simp only[Option.isSome_some]at ch;have HKa:=AA (hHo.out x.a hxm.1);have HKb:=AA (hHo.out x.b hxm.2);clear hF hxm;have xT:Hid (∀V,ZN w4 V->AJ V q 0 23=some x.a.cells/\AJ V q 23 23=some x.b.cells):=fun V hV=>⟨x.row_a (HQ4.out.below hV HQ4.out.lt),x.row_b (HQ4.out.below hV HQ4.out.lt)⟩
      have HCp:Hid (∀(s:Sg) (V:World),D3 W2 W2.heap.size s->ZN W2 V->Calls prog 156 #[s.val] V (OH V s)):=fun s V hs hV=>Pj s V ((hs.below hV).more hV.size)
      have hbx:ZN w4 w4:=AC _ _;go_upto_region 21 with fail
      refine rgD (fun w'=>AJ w' q 0 23=some x.a.cells/\AJ w' q 23 23=some x.b.cells) (xT.out _ hbx.drew) fun _=>?_
      iterate 3 (refine tkA ?_;go_frame)
      refine tkD 81 4 ?_;go_frame;refine tkD 82 5 ?_;go_frame;refine rd1 3 fun K hK=>?_
      go_simp;refine(HCp.out x.a _ HKa.out yP.drew).mono ?_;rintro en w5 ⟨A5,c5,rfl,xW,hb5⟩;have xX:=hbx.drew.trans (hb5.mono (AB _));have yr:=yP.trans (xX.mono yP.size);have HN5:=AA (xW.base yP.size);have xx:=AA (Ay xM.out xX (AB _));have hHp:Hid (∀y∈O,Eg w5 W2.heap.size y):=(fun y hy=>(hEg.out y hy).below xX (AB _));clear xW;go_wp2_with fail
      refine hK.out _ _ (xT.out _ xX) (fun _=>?_);clear hK K;try go_frame
      refine rd1 6 fun K hK=>?_
      go_simp;refine(HCp.out x.b _ HKb.out yr).mono ?_;rintro en w6 ⟨A6,c6,rfl,xi,hb6⟩;have yA:=xX.trans (hb6.mono xX.size);have hFi:=yr.trans (hb6.mono yr.size);have HN6a:Hid (Bo w6 W2.heap.size (Sg.mk x.a.vote x.a.sig A5 c5)):=HN5.out.below hb6 (AB _);have HN6:=AA (xi.base yr.size);have yQ:=AA (Ay xx.out hb6 (AB _));have hHq:Hid (∀y∈O,Eg w6 W2.heap.size y):=(fun y hy=>(hHp.out y hy).below hb6 (AB _));clear xi;go_wp2_with fail
      refine hK.out _ _ (xT.out _ yA) (fun _=>?_);clear hK K;try go_frame
      refine tkV 84 7 ((Ev.mk (Sg.mk x.a.vote x.a.sig A5 c5) (Sg.mk x.b.vote x.b.sig A6 c6)).val) (fun wq _=>Js (Sg.mk x.a.vote x.a.sig A5 c5) (Sg.mk x.b.vote x.b.sig A6 c6) (.tmp 80) (.tmp 83) rfl rfl rfl wq) ?_;go_frame;refine rd1 8 fun K hK=>?_
      rw[if_pos (by rfl)];refine Dw (some 85) (by rfl) 122 125 (.tmp 84) (by rfl) (Ev.mk (Sg.mk x.a.vote x.a.sig A5 c5) (Sg.mk x.b.vote x.b.sig A6 c6)).cells (by rfl) underlying122 (by rw[Ev.size_cells];kernel_rfl) (by rw[Ev.size_cells];omega) (by rw[Ev.size_cells];omega) ?_;refine hK.out _ _ (xT.out _ (yA.alloc yA.size _)) (fun _=>?_);clear hK K;try go_frame
      refine rd1 9 fun K hK=>?_
      rw[if_pos (by rfl)];refine Ft (some 86) (by rfl) (.tmp 77) (.tmp 85) _ (by rfl) W2.heap.size 125 (.agg B7) 46 176 underlying122 We rfl (by decide) u15 O.length (O.flatMap evc) (by rfl) (yQ.out.alloc _) (w6.heap.size+1) (some ⟨w6.heap.size,0,none⟩) 1 1 (evc (Ev.mk (Sg.mk x.a.vote x.a.sig A5 c5) (Sg.mk x.b.vote x.b.sig A6 c6))) (by rfl) (by rw[Array.length_toList,Ev.size_cells]) (Rd.mk (by omega) (fun k u hu=>by rw[Nat.zero_add,(Blk.new w6 _ _).cell];simpa using hu)) (fun u hu=>JQ _ hu) (by omega) (by unfold maxLen;omega) (AG hFi.size (by simp)) ?_;intro v7 w7 xL hg7 xr;have hCw:ZN W2 w7:=BJ (hFi.alloc hFi.size _) (yQ.out.alloc _) hg7;have xU:=AA xL;have hHr:Hid (∀y∈O,Eg w7 W2.heap.size y):=(fun y hy=>((hHq.out y hy).alloc _).farE (yQ.out.alloc _) hg7);have HNw7:Hid (Eg w7 W2.heap.size (Ev.mk (Sg.mk x.a.vote x.a.sig A5 c5) (Sg.mk x.b.vote x.b.sig A6 c6))):=⟨(HN6a.out.alloc _).farE (yQ.out.alloc _) hg7,(HN6.out.alloc _).farE (yQ.out.alloc _) hg7⟩;have hq7:Hid (AJ w7 q 0 23=some x.a.cells/\AJ w7 q 23 23=some x.b.cells):=(by have hb7:=((HQ4.out.below yA HQ4.out.lt).alloc (.cells (Ev.mk (Sg.mk x.a.vote x.a.sig A5 c5) (Sg.mk x.b.vote x.b.sig A6 c6)).cells 125)).kept hg7 (fun e=>by have:=HLt.out q e.symm;omega);exact⟨x.row_a hb7,x.row_b hb7⟩);clear xL hg7 xr;refine hK.out _ _ (hq7.out) (fun _=>?_);clear hK K;try go_frame
      refine tkD 15 10 ?_;go_frame;refine dnD ?_;go_wp2_with fail
      go_roundw
      case rel=>
       refine⟨i+1,O++[Ev.mk (Sg.mk x.a.vote x.a.sig A5 c5) (Sg.mk x.b.vote x.b.sig A6 c6)],by go_num,by omega,?_,?_,?_,hCw⟩
       ·rw[LM,HF.out,Ae,Ae,HO.out];rfl
       ·have h:=xU.out;rw[AF,Af];simpa using h
       ·intro y hy;rcases AP.1 hy with hy|hy
        ·exact hHr.out y hy
        ·rw[AU.1 hy];exact HNw7.out
      case measure=>simp[intOf];omega
    ·have di:decide ((i:Int)<10)=false:=by simp;omega
     obtain rfl:i=10:=by omega
     go_wp2;go_ret;refine⟨O,_,rfl,xB.trans (hbr.mono xB.size),BE xK.out xB.size,fun x hx=>⟨(yg.out x hx).1.ok,(yg.out x hx).2.ok⟩,?_⟩;rw[HO.out,<-SX,HE.out]
end
section
open Go.RowKit
attribute [local go_sem ↓] Go.wp_at_zero Go.wp_at_succ Aj Ao Ap Aq
attribute [local go_sem] Ax BB BC BD AK AR AN
def T7(w:World)(v:Vt)(sig:List UInt8)(v':Vt)(sig':List UInt8)(e:Ending)(w':World):Prop:=
 ∃A c A' c',e= .returned (.tuple #[(Ev.mk ⟨v,sig,A,c⟩ ⟨v',sig',A',c'⟩).val,.int .i64 0])/\(∀p,A=some p->w.heap.size<=p.block)/\(∀p,A'=some p->w.heap.size<=p.block)/\Rd w' w'.heap.size A (sig.map B)/\sig.length<=c/\c<=maxLen/\Rd w' w'.heap.size A' (sig'.map B)/\sig'.length<=c'/\c'<=maxLen/\ZN w w'
def Mw(w:World)(n:Int)(e:Ending)(w':World):Prop:=e= .returned (.tuple #[.agg B7,.int .i64 n])/\ZN w w'
theorem V7{w:World}{b n:Nat}{v:Value}{L:List Ev}(h:w.ownsRow b 125 46 v n (L.flatMap evc))(hn:n=L.length):∃A c,v= .slice A L.length c/\Rd w w.heap.size A (L.flatMap evc)/\L.length<=c/\c<=maxLen:=by
 subst hn;rcases h.2 with⟨hv,h0⟩|⟨g,cap,cur,hv,_,_,h1,h2,_⟩
 ·subst hv;have hL:L=[]:=AV h0;subst hL;exact⟨none,0,rfl,Rd.nil,AB _,by unfold maxLen;omega⟩
 ·subst hv;exact⟨_,cap,rfl,Rd.of_own h,h1,h2⟩
def T8(w:World)(l:List Sg)(e:Ending)(w':World):Prop:=
 ∃A c,e= .returned (.slice A l.length c)/\w'.ownsRow w.heap.size 62 23 (.slice A l.length c) l.length (l.flatMap sgc)/\ZN w w'
def V8(a b:List Sg)(w:World)(v iv:Value)(wr:World):Prop:=
 ∃(i:Nat) (l:List Sg),iv= .int .i64 (i:Int)/\i<=2/\l=(if i=0 then[]else if i=1 then a else a++b)/\wr.ownsRow w.heap.size 62 23 v l.length (l.flatMap sgc)/\ZN w wr
theorem Pm(A C:Option Addr)(p na ca nc cc:Nat)(a b:List Sg)(w:World)(hna:a.length=na)(hnc:b.length=nc)(hA:Rd w w.heap.size A (a.flatMap sgc))(hC:Rd w w.heap.size C (b.flatMap sgc))(hsm:na+nc<=1000000)(hp:p<w.heap.size)(h0:w.cell? ⟨p,0,none⟩=some (.slice A na ca))(h1:w.cell? ⟨p,1,none⟩=some (.slice C nc cc)):Calls prog 107 #[.slice (some ⟨p,0,none⟩) 2 2] w (T8 w (a++b)):=by
 have HNa:=AA hna;have HNc:=AA hnc;have HC0:Hid (∀V,ZN w V->V.cell? ⟨p,0,none⟩=some (.slice A na ca)/\V.cell? ⟨p,1,none⟩=some (.slice C nc cc)/\Rd V V.heap.size A (a.flatMap sgc)/\Rd V V.heap.size C (b.flatMap sgc)):=fun V hV=>⟨(hV.cell (by exact hp)).trans h0,(hV.cell (by exact hp)).trans h1,(hA.below hV).more hV.size,(hC.below hV).more hV.size⟩
 clear hna hnc hA hC hp h0 h1;go_enter func107,ntmps107;go_wp2
 go_loopw [3,8] (fun v iv wr=>V8 a b w v iv wr) (fun _ iv _=>2-(intOf iv).toNat)
 case atStart=>exact⟨0,[],rfl,by omega,rfl,⟨rfl,.inl ⟨rfl,rfl⟩⟩,AC _ _⟩
 case round=>
  obtain⟨i,l,rfl,hin,hl,xA,hb⟩:=hrel;obtain⟨c0,c1,hra,hrc⟩:=HC0.out _ hb;rcases(by omega:i=0∨i=1∨i=2)with rfl|rfl|rfl
  ·replace hl:l=[]:=hl;subst hl;go_wp2_with (at_builtin;refine Ar rfl (.tmp 12) (.tmp 13) _ rfl w.heap.size 62 (.agg Al) 23 88 underlying50 CT rfl (by decide) _ 0 [] rfl xA wr.heap.size A na ca (a.flatMap sgc) rfl (by rw[AY sgc 23 a (Cc a),HNa.out]) hra (fun u hu=>by obtain⟨s,_,hs⟩:=List.mem_flatMap.1 hu;exact s.one u hs) (by omega) (by unfold maxLen;omega) hb.size ?_;intro v2 w2 xG hg2 zO)
   go_roundw
   case rel=>exact⟨1,a,rfl,by omega,rfl,by rw[HNa.out];simpa using xG,BJ hb xA hg2⟩
   case measure=>simp[intOf]
  ·replace hl:l=a:=hl;subst hl;rw[HNa.out]at xA;go_wp2_with (at_builtin;refine Ar rfl (.tmp 12) (.tmp 13) _ rfl w.heap.size 62 (.agg Al) 23 88 underlying50 CT rfl (by decide) _ na (l.flatMap sgc) rfl xA wr.heap.size C nc cc (b.flatMap sgc) rfl (by rw[AY sgc 23 b (Cc b),HNc.out]) hrc (fun u hu=>by obtain⟨s,_,hs⟩:=List.mem_flatMap.1 hu;exact s.one u hs) (by omega) (by unfold maxLen;omega) hb.size ?_;intro v2 w2 xG hg2 zO)
   go_roundw
   case rel=>exact⟨2,l++b,rfl,by omega,rfl,by rw[AF,HNa.out,HNc.out,Af];exact xG,BJ hb xA hg2⟩
   case measure=>simp[intOf]
  ·replace hl:l=a++b:=hl;subst hl;obtain⟨A',c',hv⟩:=Av xA;subst hv;go_wp2;go_ret;exact⟨A',c',rfl,xA,hb⟩
end

theorem OJ{k:Nm}{v:Vt}{g:List UInt8}(h:Er k v g=true):Ab v/\g.length=370:=by
 unfold Er J5 at h;rw[Bool.and_eq_true,Bool.and_eq_true]at h;exact⟨of_decide_eq_true h.1,of_decide_eq_true h.2.1⟩
theorem Ks{keys:List Nm}{v:Vt}{g:List UInt8}(h:Fc keys v g=true):0<=v.signer/\v.signer<(keys.length:Int)/\Er (keys.getD v.signer.toNat Nm.zero) v g=true:=by
 unfold Fc at h;rw[Bool.and_eq_true,Bool.and_eq_true]at h;exact⟨of_decide_eq_true h.1,of_decide_eq_true h.2.1,h.2.2⟩
structure GoodEv (keys:List Nm)(e:Ev):Prop where
 enc:Fr e
 conf:CN e.a.vote e.b.vote
 less:BU e.a.vote e.b.vote=true
 sgn0:0<=e.a.vote.signer
 sgn9:e.a.vote.signer<=9
 lt:e.a.vote.signer<(keys.length:Int)
 va:Er (keys.getD e.a.vote.signer.toNat Nm.zero) e.a.vote e.a.sig=true
 vb:Er (keys.getD e.a.vote.signer.toNat Nm.zero) e.b.vote e.b.sig=true
theorem V9{keys:List Nm}{l:List VS}{s:Nat}{e:Ev}(h:DR s (cvS keys l)=some e.vs):GoodEv keys e:=by
 obtain⟨h1,h2,h3,h4,h5⟩:=C9 h;have a:=Ks (F3 h1).2;have b:=Ks (F3 h2).2;have hs:e.a.vote.signer=e.b.vote.signer:=h4.2.1.2.2.2.2;have hb:Er (keys.getD e.a.vote.signer.toNat Nm.zero) e.b.vote e.b.sig=true:=by rw[hs];exact b.2.2
 exact⟨⟨OJ a.2.2,OJ b.2.2⟩,h4,h5 (IM keys l),a.1,h4.2.2.1.2.1.2,a.2.1,a.2.2,hb⟩
theorem H8{keys:List Nm}{l:List VS}{E:List Ev}(h:E.map Ev.vs=CY (cvS keys l) 10):∀e∈E,GoodEv keys e:=fun e he=>by
 have:e.vs∈CY (cvS keys l) 10:=by rw[<-h];exact List.mem_map_of_mem he
 obtain⟨s,_,h2⟩:=JW.1 this;exact V9 h2
theorem MH{c:List VS}{E:List Ev}(h:E.map Ev.vs=CY c 10):E.Pairwise fun e f=>e.a.vote.signer<f.a.vote.signer:=by
 have:=SY c 10;rw[<-h,List.pairwise_map]at this;exact this
theorem MI{c:List VS}{E:List Ev}(h:E.map Ev.vs=CY c 10):E.length<=10:=by
 have h1:=congrArg List.length h;have h2:=List.length_filterMap_le (fun s=>DR s c) (List.range 10);rw[List.length_range]at h2;rw[AX]at h1;unfold CY at h1;omega
theorem Jm{keys:List Nm}{l:List VS}{E:List Ev}(h:E.map Ev.vs=CY (cvS keys l) 10)(hne:E≠[]):Fs E:=by
 refine⟨hne,MI h,fun i e _ he=>⟨(H8 h e (AM he)).enc,fun j d hd hj=>?_⟩⟩;have:=MH h;obtain⟨hi,rfl⟩:=AE.1 he;obtain⟨hj',rfl⟩:=AE.1 hd;exact(List.pairwise_iff_getElem.1 this) j i hj' hi (by omega)
section
open Go.RowKit
attribute [local go_sem ↓] Go.wp_at_zero Go.wp_at_succ Aj Ao Ap Aq
attribute [local go_sem] Ax BB BC BD AK AR AN
def Xf(w:World)(E:List Ev):Prop:=∀x∈E,(D3 w w.heap.size x.a/\GA x.a)/\(D3 w w.heap.size x.b/\GA x.b)
def pbS(F:List ES):List UInt8:=UInt8.ofNat F.length::F.flatMap fun e=>(Ef e.1.1++e.1.2)++(Ef e.2.1++e.2.2)
theorem MJ(E:List Ev):DJ E E.length=pbS (E.map Ev.vs):=by
 unfold DJ pbS;rw[List.take_length,AX,List.flatMap_map];rfl
def D0(w:World)(F:List ES)(e:Ending)(w':World):Prop:=
 (F≠[]/\Gg w 5 1 (1+786*F.length) ((pbS F).map B) e w')∨(F=[]/\C7 w e w')
theorem JP.prf{w:World}{keys:List Nm}{l:List VS}{E:List Ev}{e:Ending}{w':World}(h:JP w E e w')(hE:E.map Ev.vs=CY (cvS keys l) 10):D0 w (CY (cvS keys l) 10) e w':=by
 rcases h with⟨h1,h2⟩|⟨h1,h2⟩
 ·refine .inl ⟨fun h0=>h1.1 (by rw[h0]at hE;simpa using hE),?_⟩;rw[<-hE,<-MJ,AX];exact h2
 ·refine .inr ⟨?_,h2⟩;by_cases h0:E=[]
  ·rw[<-hE,h0];rfl
  ·exact absurd (Jm hE h0) h1
theorem FX.mono2{w w1 w2:World}{c:List ES}{e:Ending}(hb:ZN w w1)(h:FX w1 c e w2):FX w c e w2:=by
 obtain⟨E,v,rfl,h1,h2,h3,h4⟩:=h;exact⟨E,v,rfl,hb.trans (h1.mono hb.size),BE h2 hb.size,h3,h4⟩
theorem D0.mono2{w w1 w2:World}{F:List ES}{e:Ending}(hb:ZN w w1)(h:D0 w1 F e w2):D0 w F e w2:=by
 rcases h with⟨h0,A,c,rfl,h1,h2⟩|⟨h0,rfl,h2⟩
 ·exact .inl ⟨h0,A,c,rfl,BE h1 hb.size,hb.trans (h2.mono hb.size)⟩
 ·exact .inr ⟨h0,rfl,hb.trans (h2.mono hb.size)⟩
theorem T9(A C:Option Addr)(na ca nc cc:Nat)(a b:List Sg)(w:World)(hna:a.length=na)(hnc:b.length=nc)(hA:Rd w w.heap.size A (a.flatMap sgc))(hC:Rd w w.heap.size C (b.flatMap sgc))(hsm:na+nc<=1000000)(hoa:CO w w.heap.size a)(hob:CO w w.heap.size b):Calls prog 107 #[.slice (some ⟨w.heap.size,0,none⟩) 2 2] (w.alloc (.cells #[.slice A na ca,.slice C nc cc] 50)) fun e w'=>∃A' c',e= .returned (.slice A' (a++b).length c')/\Rd w' w'.heap.size A' ((a++b).flatMap sgc)/\CO w' w'.heap.size (a++b)/\ZN w w':=by
 have hb1:ZN w (w.alloc (.cells #[.slice A na ca,.slice C nc cc] 50)):=(AC _ _).alloc (AB _) _;have hB:=Blk.new w 50 #[.slice A na ca,.slice C nc cc];refine(Pm A C w.heap.size na ca nc cc a b _ hna hnc ((hA.below hb1).more hb1.size) ((hC.below hb1).more hb1.size) hsm (by simp) (hB.cell 0) (hB.cell 1)).mono ?_;rintro e w' ⟨A',c',rfl,xA,hb⟩;have hbw:=hb1.trans (hb.mono hb1.size);refine⟨A',c',rfl,Rd.of_own xA,fun s hs=>?_,hbw⟩;rcases AP.1 hs with h|h
 ·exact⟨((hoa s h).1.below hbw).more hbw.size,(hoa s h).2⟩
 ·exact⟨((hob s h).1.below hbw).more hbw.size,(hob s h).2⟩
theorem OK(K A C:Option Addr)(nk ck na ca nc cc:Nat)(keys:List Nm)(a b:List Sg)(w:World)(hnk:keys.length=nk)(hK:Rd w w.heap.size K (keys.flatMap nmc))(hna:a.length=na)(hnc:b.length=nc)(hA:Rd w w.heap.size A (a.flatMap sgc))(hC:Rd w w.heap.size C (b.flatMap sgc))(hsm:na+nc<=1000000)(hoa:CO w w.heap.size a)(hob:CO w w.heap.size b):Calls prog 68 #[.slice K nk ck,.slice A na ca,.slice C nc cc] w (FX w (CY (cvS keys ((a++b).map Sg.vs)) 10)):=by
 have HJ:=AA (T9 A C na ca nc cc a b w hna hnc hA hC hsm hoa hob);have HL:Hid ((a++b).length<=1000000):=by unfold Hid;rw[AF];omega
 generalize a++b=l at*;obtain⟨n,hn⟩:=ZH l.length;rw[<-hn]at HJ HL;have HN:=AA hn;have HK:=AA hK;have HNk:=AA hnk;clear hna hnc hA hC hsm hoa hob hn hK hnk;go_enter func68,ntmps68;go_wp2_with (first
  |(go_at_call 107;refine HJ.out.mono ?_;rintro en w2 ⟨A',c',rfl,hr,hok,hb2⟩;have HP:=AA (R5 K A' nk ck n c' keys l w2 HNk.out HN.out.symm ((HK.out.below hb2).more hb2.size) hr hok HL.out);clear hr hok)
  |(go_at_call 106;refine HP.out.mono ?_;rintro en w3 h3;have h4:=h3.mono2 hb2;obtain⟨L,v,rfl,h5,h6,h7,h8⟩:=h4))
 go_ret;exact⟨L,v,rfl,h5,h6,h7,h8⟩
theorem R6(K A C:Option Addr)(nk ck na ca nc cc:Nat)(keys:List Nm)(a b:List Sg)(w:World)(hnk:keys.length=nk)(hK:Rd w w.heap.size K (keys.flatMap nmc))(hna:a.length=na)(hnc:b.length=nc)(hA:Rd w w.heap.size A (a.flatMap sgc))(hC:Rd w w.heap.size C (b.flatMap sgc))(hsm:na+nc<=1000000)(hoa:CO w w.heap.size a)(hob:CO w w.heap.size b):Calls prog 35 #[.slice K nk ck,.slice A na ca,.slice C nc cc] w (D0 w (CY (cvS keys ((a++b).map Sg.vs)) 10)):=by
 have HX:=AA (OK K A C nk ck na ca nc cc keys a b w hnk hK hna hnc hA hC hsm hoa hob);have HB:Hid (∀V e w',ZN w V->D0 V (CY (cvS keys ((a++b).map Sg.vs)) 10) e w'->D0 w (CY (cvS keys ((a++b).map Sg.vs)) 10) e w'):=fun V e w' h1 h2=>h2.mono2 h1
 have HC:Hid (∀V v (E:List Ev),V.ownsRow w.heap.size 125 46 v E.length (E.flatMap evc)->Xf V E->E.map Ev.vs=CY (cvS keys ((a++b).map Sg.vs)) 10->∃A c,v= .slice A E.length c/\Calls prog 67 #[.slice A E.length c] V (D0 V (CY (cvS keys ((a++b).map Sg.vs)) 10))):=fun V v E h1 h2 h3=>by
  obtain⟨A,c,rfl,hr,_,_⟩:=V7 h1 rfl;have hl:=MI h3;exact⟨A,c,rfl,(ST A c E V hr (fun x hx=>⟨(h2 x hx).1.1,(h2 x hx).2.1⟩) (by omega)).mono fun e w' h=>h.prf h3⟩
 generalize CY (cvS keys ((a++b).map Sg.vs)) 10=F at*;clear hna hnc hA hC hsm hoa hob hK hnk;go_enter func35,ntmps35;go_wp2_with (first
  |(go_at_call 68;refine HX.out.mono ?_;rintro en w2 ⟨E,v,rfl,hb2,xA,hok,he⟩;obtain⟨A',c',rfl,xO⟩:=HC.out w2 v E xA hok he;have HP:=AA xO;clear xA hok he xO)
  |(go_at_call 67;refine HP.out.mono ?_;rintro en w3 h3;have h4:=HB.out _ _ _ hb2 h3;clear h3;rcases h4 with⟨h5,A3,c3,rfl,h6,h7⟩|⟨h5,rfl,h6⟩))
 ·go_wp2;go_ret2;exact .inl ⟨h5,A3,c3,rfl,h6,h7⟩
 ·go_wp2;go_ret2;exact .inr ⟨h5,rfl,h6⟩
theorem Xg(m:Int)(g:Nat)(hg:g<1024):∃x:Nat,x<1024/\bits .and .i64 m (g:Int)=(x:Int):=by
 refine⟨((BitVec.ofInt 64 m)&&& (BitVec.ofInt 64 (g:Int))).toNat,?_,?_⟩
 ·rw[BitVec.toNat_and];refine Nat.lt_of_le_of_lt Nat.and_le_right ?_;rw[BitVec.ofInt_natCast,BitVec.toNat_ofNat];omega
 ·show IntKind.i64.wrap (((BitVec.ofInt 64 m)&&& (BitVec.ofInt 64 (g:Int))).toNat:Int)=_;have h:((BitVec.ofInt 64 m)&&& (BitVec.ofInt 64 (g:Int))).toNat<1024:=by
   rw[BitVec.toNat_and];refine Nat.lt_of_le_of_lt Nat.and_le_right ?_;rw[BitVec.ofInt_natCast,BitVec.toNat_ofNat];omega
  rw[IntKind.wrap_i64];omega
end
section

abbrev GmS.pks(G:GmS):List Nm:=G.ks.map fun k=>Lu k.seed
section
variable {n T:Nat}{T0 L0:Int}{s:Nm}{G:GmS}
theorem UA{x:VS}(h:Ii G.ks G.sg x):Fc G.pks x.1 x.2=true:=by
 obtain⟨h0,m,y,k,l,h1,_,_,h4,h5,h6⟩:=h;have hml:=(AE.1 h4).1;unfold Fc;have e:G.pks.getD x.1.signer.toNat Nm.zero=Lu k.seed:=by
  rw[h1,Int.toNat_natCast,List.getD_eq_getElem?_getD,AQ,h4];rfl
 rw[e,h1,AX];unfold Er;rw[h6,Uv _ _ _ h5,decide_eq_true h0,decide_eq_true (by omega),decide_eq_true (by omega)];rfl
theorem Pn(a b:Int):bits .and .i64 a b=bits .and .i64 b a:=by
 show IntKind.i64.wrap ((BitVec.ofInt 64 a&&& BitVec.ofInt 64 b).toNat:Int)=IntKind.i64.wrap ((BitVec.ofInt 64 b&&& BitVec.ofInt 64 a).toNat:Int);rw[BitVec.and_comm]
theorem PlI.account(h:PlI n T0 L0 s T G)(hn:n<=7){i j b b':Nat}{P Q:PrS}(hi:G.ps[i]? =some (b,P))(hj:G.ps[j]? =some (b',Q))(hP:P.dd=true)(hQ:Q.dd=true)(hne:P.dec≠Q.dec)(l l':List VS)(hl:l=B8 (P.L.map Sg.vs))(hl':l'=B8 (Q.L.map Sg.vs)):CY (cvS G.pks (l++l')) 10≠[]/\LX n<=Aw (GT G.pks (l++l')) 10/\bits .and .i64 ((GT G.pks (l++l'):Nat):Int) G.hon=0:=by
 have said:∀y∈l++l',Ii G.ks G.sg y/\∃(m c:Nat) (R:PrS),G.ps[m]? =some (c,R)/\y.1∈R.D:=fun y hy=>by
  rcases AP.1 hy with hy|hy
  ·rw[hl]at hy;obtain⟨x,hx,rfl⟩:=List.mem_map.1 ((DE _).sub y hy);exact⟨h.inv.held i b P hi x hx,i,b,P,hi,PrS.mem_D.2 ⟨x,hx,rfl⟩⟩
  ·rw[hl']at hy;obtain⟨x,hx,rfl⟩:=List.mem_map.1 ((DE _).sub y hy);exact⟨h.inv.held j b' Q hj x hx,j,b',Q,hj,PrS.mem_D.2 ⟨x,hx,rfl⟩⟩
 obtain⟨yF,l1,l2,a1,a2,h3⟩:=h.third hi hj hP hQ hne;have hg:GT G.pks (l++l')<1024:=RL _ _;have hle:=NG (keys:=G.pks) (L:=l++l') (g:=GT G.pks (l++l')) h3 (fun v hv=>by
  have key:∃y∈l++l',y.1=v:=by
   rcases AP.1 hv with hv|hv
   ·obtain⟨y,hy,e⟩:=List.mem_map.1 (H6.2 ((Dc _ _).1 (a1 v hv)));exact⟨y,BW _ (by rw[hl];exact hy),e⟩
   ·obtain⟨y,hy,e⟩:=List.mem_map.1 (H6.2 ((Dc _ _).1 (a2 v hv)));exact⟨y,Bc _ (by rw[hl'];exact hy),e⟩
  obtain⟨y,hy,e⟩:=key;exact⟨y,hy,e,UA (said y hy).1⟩) (fun k _ _ hg=>(LW _ _ k).2 hg)
 rw[h.popM hn]at hle yF;have ht:0<LX n:=by unfold LX;rw[if_neg (by omega)];omega
 refine⟨fun h0=>?_,hle,?_⟩
 ·obtain⟨k,_,hb⟩:=I2 10 (Nat.lt_of_lt_of_le ht hle);have h1:GT G.pks (l++l')=Hh (CY (cvS G.pks (l++l')) 10):=rfl;rw[h1,h0]at hb;simp[Hh]at hb
 ·rw[Pn];obtain⟨x,hx,hmx⟩:=Xg G.hon (GT G.pks (l++l')) hg;rw[hmx];have e0:x=0:=by
   refine Nat.eq_of_testBit_eq fun k=>?_
   rw[Nat.zero_testBit];rcases Nat.lt_or_ge k 10 with hk|hk
   ·have e:(xOf (bits .and .i64 G.hon ((GT G.pks (l++l'):Nat):Int))).testBit k=(xOf (x:Int)).testBit k:=by rw[hmx]
    rw[Mt _ _ k hk,EO x hx,EO _ hg]at e;rw[<-e];rcases hb:(xOf G.hon).testBit k with _|_
    ·rfl
    ·rcases hb2:(GT G.pks (l++l')).testBit k with _|_
     ·rfl
     ·exfalso;obtain⟨u,hu,v,hv,hs,hc,_⟩:=(LW _ _ k).1 hb2;obtain⟨_,_,_,_,g1,g2⟩:=said u hu;obtain⟨_,_,_,_,g3,g4⟩:=said v hv;exact h.no_conf g1 g3 g2 g4 hs hb hc
   ·exact Nat.testBit_lt_two_pow (Nat.lt_of_lt_of_le hx (show 1024<=2^k from Nat.pow_le_pow_right (n:=2) (i:=10) (by omega) hk))
  rw[e0];rfl
end
end
section
open Go.RowKit
theorem UB(p:Value):Instr.loadAt 88 p=CQ 88 p:=rfl
theorem Wo(b o:Nat)(w:World):(CQ 88 (.pointer (some ⟨b,o,none⟩))).run prog w=DC 88 b o w (AJ w b o 9):=CX _ 9 b o w _ underlying88 rfl (by kernel_rfl)
theorem Rd.chRow{w:World}{B' b o:Nat}{l:List Ch}{k:Nat}{v:Ch}(h:Rd w B' (some ⟨b,o,none⟩) (l.flatMap chc))(hk:l[k]? =some v):AJ w b (o+k*9) 9=some v.cells:=by
 have yF:=(AE.1 hk).1;rcases h with h|⟨b',o',e,hb,hc⟩
 ·have:=AY chc 9 l (Ig l);rw[h]at this;simp at this;omega
 ·injection e with e
  injection e with e1 e2
  subst e1;subst e2;refine Bq (fun j u hu=>?_) rfl;have hj:j<9:=by
   have:=(AE.1 hu).1;simpa using this
  rw[Nat.add_assoc];refine hc _ u ?_;rw[B4 chc 9 l (Ig l) k j v hk hj,<-hu]
attribute [local go_sem ↓] Go.wp_at_zero Go.wp_at_succ Aj Ao Ap Aq UB
attribute [local go_sem] Ax BB BC BD Wo AK AR AN
end
section
open Go.RowKit
attribute [local go_sem ↓] Go.wp_at_zero Go.wp_at_succ Aj Ao Ap Aq UB
attribute [local go_sem] Ax BB BC BD Wo AK AR AN
theorem Lp(A A':Option Addr)(n n' c c':Nat)(E F:List Ch)(w:World)(hE:E.length=n)(hF:F.length=n')(hr:Rd w w.heap.size A (E.flatMap chc))(hr':Rd w w.heap.size A' (F.flatMap chc))(xS:n<=1000000):Calls prog 21 #[.slice A n c,.slice A' n' c'] w (Ac w (decide (E=F))):=by
 by_cases hnn:n=n'
 rotate_left
 ·have d:decide ((n:Int)=(n':Int))=false:=by simp;omega
  have d2:((n:Int)==(n':Int))=false:=by simp;omega
  have e:decide (E=F)=false:=decide_eq_false (fun e=>hnn (by rw[<-hE,<-hF,e]));rw[e];clear hE hF hr hr' e hnn;go_enter func21,ntmps21;go_wp2;go_ret;exact⟨rfl,AC _ _⟩
 subst hnn;obtain⟨r,hrr⟩:=ZH (decide (E=F));rw[<-hrr];have HRr:=AA hrr;clear hrr;have HE:=AA hE;have HF:=AA hF;have HR:=AA hr;have HR':=AA hr';clear hE hF hr hr';go_enter func21,ntmps21;go_wp2
 go_loopw [5] (fun iv wr=>∃i:Nat,iv= .int .i64 (i:Int)/\i<=n/\E.take i=F.take i/\ZN w wr) (fun iv _=>n-(intOf iv).toNat)
 case atStart=>exact⟨0,rfl,Nat.zero_le _,rfl,AC _ _⟩
 case round=>
  obtain⟨i,rfl,hin,ht,hbw⟩:=hrel;have HT:=AA ht;clear ht;by_cases hi:i<n
  ·have di:=ZK (show i<n by omega)
   have i0:(0:Int)<=(i:Int):=by omega
   have i1:(i:Int)<(n:Int):=by omega
   obtain⟨e,he⟩:∃e,E[i]? =some e:=⟨_,AD (by rw[HE.out];exact hi)⟩;obtain⟨f,hf⟩:∃f,F[i]? =some f:=⟨_,AD (by rw[HF.out];exact hi)⟩;obtain⟨b,o,rfl,_,_⟩:=HR.out.cells (by intro h0;have:=AY chc 9 E (Ig E);rw[h0,HE.out]at this;simp at this;omega);obtain⟨b',o',rfl,_,_⟩:=HR'.out.cells (by intro h0;have:=AY chc 9 F (Ig F);rw[h0,HF.out]at this;simp at this;omega);have hx:AJ wr.drew b (o+i*9) 9=some e.cells/\AJ wr.drew b' (o'+i*9) 9=some f.cells:=⟨(HR.out.below hbw.drew).chRow he,(HR'.out.below hbw.drew).chRow hf⟩;obtain⟨k,hk⟩:=ZH (decide (e=f));have e1:∀W,(Op.equalIn 10000 88 (.agg e.cells) (.agg f.cells)).run prog W= .ok k W:=fun W=>by rw[hk];exact Y2 e f W
   have hAA:=hbw.drew;have HX:=AA hx;have HNx:Hid (k=true->E.take (i+1)=F.take (i+1)):=fun h=>by
    rw[hk]at h;rw[Ai,Ai,he,hf,HT.out,of_decide_eq_true h]
   have HNo:Hid (k=false->decide (E=F)=false):=fun h=>decide_eq_false (fun e2=>by
    rw[hk]at h;rw[e2,hf]at he;injection he with he
    exact of_decide_eq_false h he.symm)
   clear he hf hx hk;go_upto_region 6 with fail
   refine rgD (fun V=>AJ V b (o+i*9) 9=some e.cells/\AJ V b' (o'+i*9) 9=some f.cells) (HX.out) fun _=>?_
   iterate 9 (refine tkA ?_;go_frame)
   refine dnD ?_;cases k with
   |true=>
    go_wp2_with fail
    go_roundw
    case rel=>exact⟨i+1,by go_num,by omega,HNx.out (by trivial),hAA⟩
    case measure=>simp[intOf];omega
   |false=>
    go_wp2;go_ret;exact⟨by rw[HRr.out,HNo.out (by trivial)];rfl,hAA⟩
  ·have di:=ZL (show n<=i by omega)
   have e:decide (E=F)=true:=decide_eq_true (by
    have h:=HT.out;rwa[AT (by rw[HE.out];omega),AT (by rw[HF.out];omega)]at h)
   have HE2:=AA e;clear e;go_wp2;go_ret;exact⟨by rw[HRr.out,HE2.out];rfl,hbw⟩
end
end Go.Proofs.YtadllffeoibelaaGreat
